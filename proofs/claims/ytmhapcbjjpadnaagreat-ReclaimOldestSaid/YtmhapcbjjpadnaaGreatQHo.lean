/- Caches. -/
import Derived.Test.YtmhapcbjjpadnaaGreatQGo
import Derived.Test.YtmhapcbjjpadnaaGreatQFo
set_option linter.all false
set_option maxHeartbeats 32000000
set_option maxRecDepth 100000
open List renaming length_append→zA,take_of_length_le→zD
open Nat renaming zero_le→zC,le_refl→zE
namespace Go.Proofs.YtmhapcbjjpadnaaGreat
open Go Go.Sk Go.RowKit
def aVM(u:Us):Bool:=bif ((u.p.d:Int) != 0) then(bif ((u.holds:Int)==0) then((u.wr:Int)==0) else false) else false
def aVL(c:Dc)(x:Int):Bool:=match c.fr.getD (x-1).toNat none with |some u=>aVM u |none=>false
def oW(c:Dc)(n:Int)(l out:List Int):Nat->List Int
 |0=>out
 |i+1=>bif decide (((oW c n l out i).length:Int)<n) then(bif aVL c (l.getD (l.length-1-i) 0) then oW c n l out i++ [l.getD (l.length-1-i) 0] else oW c n l out i) else oW c n l out i
def lsT(c:Dc)(t:Int):List Int:=(c.ls.getD t.toNat l0).A++(c.ls.getD t.toNat l0).I
def sX(c:Dc)(n:Int)(O:List Int):Nat->List Int
 |0=> []
 |k+1=>oW c n (lsT c (O.getD k 0)) (sX c n O k) (lsT c (O.getD k 0)).length
theorem aBO {c:Dc} {n:Int} {l out:List Int} {i:Nat} (h:¬((oW c n l out i).length:Int)<n):∀j,i<=j->oW c n l out j=oW c n l out i
 |0,f=>by
  obtain rfl:i=0:=by omega
  rfl
 |j+1,f=>by
  by_cases e:i=j+1
  ·rw [e]
  ·rw [oW,aBO h j (by omega),zdf h,zcf]
theorem aI4 {c:Dc} {n:Int} {O:List Int} {i:Nat} (h:¬((sX c n O i).length:Int)<n):∀j,i<=j->sX c n O j=sX c n O i
 |0,f=>by
  obtain rfl:i=0:=by omega
  rfl
 |j+1,f=>by
  by_cases e:i=j+1
  ·rw [e]
  ·rw [sX,aI4 h j (by omega)];exact aBO (i:=0) h _ (zC _)
theorem aFM {c:Dc} {n:Int} {l out:List Int} :∀i,(oW c n l out i).length<=out.length+i
 |0=>zE _
 |i+1=>by
  have e:=aFM (c:=c) (n:=n) (l:=l) (out:=out) i;rw [oW]
  cases decide (((oW c n l out i).length:Int)<n) with
  |false=>rw [zcf];omega
  |true=>
   rw [zct]
   cases aVL c (l.getD (l.length-1-i) 0) with
   |false=>rw [zcf];omega
   |true=>rw [zct,zA];simp;omega
theorem aMW {c:Dc} (h:c.gr.length=1\/c.gr.length=2):(fL c).length=c.gr.length:=by
 unfold fL aNG;rcases h with h |h
 ·rw [h];rfl
 ·rw [h];cases decide (exT c 0<exT c 1)<;> rfl
theorem aXT {c:Dc} (h:c.gr.length=1\/c.gr.length=2) {k:Nat} (e:k< (fL c).length):∃t:Nat,(fL c).getD k 0=(t:Int)/\t<c.gr.length:=by
 rw [aMW h] at e;unfold fL aNG;rcases h with h |h
 ·rw [h] at e⊢;obtain rfl:k=0:=by omega
  exact⟨0,rfl,by omega⟩
 ·rw [h] at e⊢;have e:k=0\/k=1:=by omega
  rcases e with rfl |rfl <;> cases decide (exT c 0<exT c 1)
  ·exact⟨0,rfl,by omega⟩
  ·exact⟨1,rfl,by omega⟩
  ·exact⟨1,rfl,by omega⟩
  ·exact⟨0,rfl,by omega⟩
def aMV(k:Nat):List Int:=(List.range k).map Int.ofNat
theorem aTU(k:Nat):aB (aMV (k+1))=aB (aMV k)++ [[.int .i64 (k:Int)]]:=by unfold aMV aB;rw [List.range_succ];simp
theorem aG5(k:Nat):(aMV k).length=k:=by simp [aMV]
noncomputable def bOU:Rsv Tryz.prog Tryz.f106 [] 1:=⟨_,_,rfl,rfl⟩
theorem bH9(e:List (List V))(k:Nat):aN Tryz.prog 106 [.row 1 e] [.sl 0 0 k] (.fn 209 [.ptr 1 0 0]) [.row 1 e,.box [.sl 0 0 k]]:=by refine mR bOU (ob0:= [_]) Tryz.func106 rfl rfl rfl ?_;exact Wo2
noncomputable def c23:Code:=Tryz.f23.body.getD .skip
noncomputable def bJB:dR Tryz.prog Tryz.f23.ntmps [2,3,4] [] (cN [0] c23):=⟨_,rfl⟩
noncomputable def bJC:dR Tryz.prog Tryz.f23.ntmps [2,3,4,5] [] (cN [1,0] c23):=⟨_,rfl⟩
noncomputable def bJD:dR Tryz.prog Tryz.f23.ntmps [2,3,4,5] [] (cN [1,1,0] c23):=⟨_,rfl⟩
noncomputable def bJE:dR Tryz.prog Tryz.f23.ntmps [2,3,4,5] [] (cN [1,1,1,0] c23):=⟨_,rfl⟩
noncomputable def bJF:dR Tryz.prog Tryz.f23.ntmps [2,3,4,5,7] [] (cN [1,1,1,1,0] c23):=⟨_,rfl⟩
noncomputable def bJG:dR Tryz.prog Tryz.f23.ntmps [2,3,4,7,30,31,32] [] (cN [1,1,1,1,1,0,0] c23):=⟨_,rfl⟩
noncomputable def bJH:dR Tryz.prog Tryz.f23.ntmps [2,3,4,7,30,31,32,33] [] (cN [1,1,1,1,1,0,1,0,0,0] c23):=⟨_,rfl⟩
noncomputable def bJI:dR Tryz.prog Tryz.f23.ntmps [2,3,4,7,30,31,32] [] (cN [1,1,1,1,1,0,1,0,0,1,0] c23):=⟨_,rfl⟩
noncomputable def bJJ:dR Tryz.prog Tryz.f23.ntmps [2,3,4,7,9,30,31,32] [] (cN [1,1,1,1,1,0,1,0,0,1,1,0,0,0] c23):=⟨_,rfl⟩
noncomputable def bJK:dR Tryz.prog Tryz.f23.ntmps [2,3,4,7,10,30,31,32] [] (cN [1,1,1,1,1,0,1,0,0,1,1,0,0,1,0] c23):=⟨_,rfl⟩
noncomputable def bJL:dR Tryz.prog Tryz.f23.ntmps [2,3,4,7,30,31,32,47] [] (cN [1,1,1,1,1,0,1,0,0,1,1,0,0,1,1,0] c23):=⟨_,rfl⟩
noncomputable def bJM:dR Tryz.prog Tryz.f23.ntmps [2,3,4,7,12] [] (cN [1,1,1,1,1,0,1,0,0,1,1,0,0,1,1,1,0,0] c23):=⟨_,rfl⟩
noncomputable def bJO:dR Tryz.prog Tryz.f23.ntmps [2,3,4,7] [] (cN [1,1,1,1,1,0,1,0,0,1,1,0,0,1,1,1,0,1] c23):=⟨_,rfl⟩
noncomputable def bJN:dR Tryz.prog Tryz.f23.ntmps [2,3,4,7,30,31,32] [] (cN [1,1,1,1,1,0,1,0,0,1,1,1] c23):=⟨_,rfl⟩
noncomputable def bJP:dR Tryz.prog Tryz.f23.ntmps [4] [] (cN [1,1,1,1,1,1] c23):=⟨_,rfl⟩
noncomputable def S23(n0:Nat):rZ Unit:= eK (bY Tryz.prog n0 bJB.rc) (eK (bY Tryz.prog n0 bJC.rc) (eK (bY Tryz.prog n0 bJD.rc) (eK (bY Tryz.prog n0 bJE.rc) (eK (bY Tryz.prog n0 bJF.rc) (eK (eK (aGV n0 (bY Tryz.prog n0 bJG.rc)) (iT 2 (aI7 n0 (eK (bY Tryz.prog n0 bJH.rc) (eK (bY Tryz.prog n0 bJI.rc) (eK (iT 3 (eK (bY Tryz.prog n0 bJJ.rc) (eK (bY Tryz.prog n0 bJK.rc) (eK (bY Tryz.prog n0 bJL.rc) (iT 4 (aGV n0 (aGB n0 (.t 47) 209 Tryz.f209.ntmps [48,49] (λm=>bY Tryz.prog m bJM.rc) (λm=>bY Tryz.prog m bJO.rc) bFN))))))) (bY Tryz.prog n0 bJN.rc))))))) (bY Tryz.prog n0 bJP.rc))))))
theorem bP4(C:Cy Tryz.prog Unit)(h:C.rd=none):aI C Tryz.f23.ntmps c23 (S23 C.n0):=
 aI.sq (aI.bas bJB (by rfl)) (aI.sq (aI.bas bJC (by rfl)) (aI.sq (aI.bas bJD (by rfl)) (aI.sq (aI.bas bJE (by rfl)) (aI.sq (aI.bas bJF (by rfl)) (aI.sq (aI.sq (aI.vw (aI.bas bJG (by rfl))) (aI.bl (aI.lp (aI.sq (aI.bas bJH (by rfl)) (aI.sq (aI.bas bJI (by rfl)) (aI.sq (aI.bl (aI.sq (aI.bas bJJ (by rfl)) (aI.sq (aI.bas bJK (by rfl)) (aI.sq (aI.bas bJL (by rfl)) (aI.bl (aI.vw (aI.rg h rfl (ps:= #[48,49]) (by decide) Tryz.func209 rfl rfl rfl (λC2 _=>aI.bas bJM (by rfl)) (λC2 _=>aI.bas bJO (by rfl)) (λj l e _ f=>bDR j l e f)))))))) (aI.bas bJN (by rfl)))))))) (aI.bas bJP (by rfl)))))))
theorem bPJ(c:Dc)(h:Ok c)(h2:c.gr.length=1\/c.gr.length=2)(n:Int):aN Tryz.prog 23 [] [.agg c.c,.int .i64 n] (.lst 1 false (aB (sX c n (fL c) (fL c).length))) []:=by
 generalize hq:sX c n (fL c) (fL c).length=q;have ap:(aR c.gr).length=c.gr.length:=by simp [aR]
 have hol:=aMW h2;have av:=h.nr;refine fnE Tryz.func23 rfl rfl rfl bP4 ?_;refine Wy ?_;refine Lp (λi:Nat=>i<=c.gr.length) (λi=> [(16,.int .i64 (i:Int)),(5,.sl 3 0 (aMV i).length)]) (λi=> [(3,.row 1 (aB (aMV i)))]) (λi=>c.gr.length-i) 0 (zC _) ?_ ?_
 ·exact Vr [some 0,some 1,some 2,none]
 intro i hi
 by_cases b:i<c.gr.length
 ·have ak:=bHY c h (i:Int);rw [zdt (show 0<=(i:Int)/\(i:Int)< (c.gr.length:Int) by omega)] at ak;have hs:=aTU i;have H:=aG5 i;have ag:=aG5 (i+1);refine Wy ?_;refine Le (i+1) (hv:=?_);simp only [hs,ag];exact Vr [some 0,some 1,some 2,_]
 obtain rfl:i=c.gr.length:=by omega
 have G:=bL7 c h.gr c.gr.length h2 rfl;rw [show(List.range c.gr.length).map Int.ofNat=aMV c.gr.length from rfl] at G;have H:=aG5 c.gr.length;rw [H];refine Wy ?_;have hr:(aB (fL c)).length=c.gr.length:=by rw [aA,hol]
 have ai:((aB (fL c)).drop 0).take c.gr.length=aB (fL c):=by rw [List.drop_zero];exact zD (by rw [hr];exact zE _)
 refine⟨⟨[(2,⟨[],true,.ptr 0 0 0⟩),(3,⟨[],true,.ptr 1 0 0⟩),(4,⟨[],true,.ptr 2 0 0⟩),(5,⟨[],true,.lst 1 false (aB (fL c))⟩),(7,⟨[],true,.ptr 3 0 0⟩)],[(0,.box c.c),(1,.box [.int .i64 n]),(2,.box [.lst 0 true []]),(3,.box [.lst 0 true []])],4⟩,Vr [some 0,some 1,some 2,some 20],?_⟩;clear G;refine Wy ?_
 refine⟨Nat,λk=>k<=(fL c).length/\(sX c n (fL c) k).length<=64*k,λk=>⟨[(2,⟨[],true,.ptr 0 0 0⟩),(3,⟨[],true,.ptr 1 0 0⟩),(4,⟨[],true,.ptr 2 0 0⟩),(7,⟨[],true,.ptr 3 0 0⟩),(30,⟨[],true,.lst 1 false (aB (fL c))⟩),(31,⟨[],true,.int .i64 ((fL c).length:Int)⟩),(32,⟨[],true,.int .i64 (k:Int)⟩)],[(0,.box c.c),(1,.box [.int .i64 n]),(2,.box [.lst 0 true []]),(3,.box [.sl 4 0 (sX c n (fL c) k).length]),(4,.row 1 (aB (sX c n (fL c) k)))],5⟩,λ_=>(),λk=>(fL c).length-k,⟨0,⟨zC _,zE _⟩,?_,rfl⟩,?_⟩
 ·exact Vr [some 0,some 1,some 2,some 3,none]
 rintro k ⟨hk,ar⟩;clear ai
 by_cases b:k< (fL c).length
 ·obtain⟨t,ht,aj⟩:=aXT h2 b;have T:(aB (fL c)).getD k []=[.int .i64 ((fL c).getD k 0)]:=aU7 b;rw [ht] at T;have D:sX c n (fL c) (k+1)=oW c n (lsT c ((fL c).getD k 0)) (sX c n (fL c) k) (lsT c ((fL c).getD k 0)).length:=rfl;have Q:=λ(a:¬((sX c n (fL c) (k+1)).length:Int)<n)=>aI4 a (fL c).length b
  have H:t<c.ls.length:=by rw [h.nl];exact aj
  have B:=fY c.ls t H;have ae:∀x∈lsT c t,∃m u,m<c.fr.length/\x=((m+1:Nat):Int)/\c.fr.getD m none=some u:=λx hx=>by obtain⟨m,u,a1,a2,a3,-⟩:=h.mem t x H (List.mem_append.1 hx);exact⟨m,u,a1,a2,a3⟩
  have J:=((bX _).1 (h.ls t H)).len;have z:lsT c t=(c.ls.getD t l0).A++(c.ls.getD t l0).I:=rfl;rw [ht] at D;dsimp only;generalize Z:sX c n (fL c) (k+1)=o2 at *;generalize sX c n (fL c) k=e at *;generalize lsT c t=l at *;generalize c.ls.getD t l0=la at *;obtain⟨A,I,R⟩:=la;dsimp only at z J;have B:(bG c.ls).getD t []=[.lst 1 false (aB A),.lst 1 false (aB I),.lst 1 false (aB R)]:=B;have au:l.length=A.length+I.length:=by rw [z,zA]
  rw [zA] at J;have K:(aB A).length=A.length:=aA _;have M:(aB I).length=I.length:=aA _;have Y:aB l=aB A++aB I:=by rw [z];simp [aB]
  have ad:=rQ (aB A) false (by omega);have ac:=bH9 (aB A++aB I) (A.length+I.length);refine Wy ?_;have aa:(aB A++aB I).length=A.length+I.length:=by rw [zA,K,M]
  have ab:((aB A++aB I).drop 0).take (A.length+I.length)=aB A++aB I:=by rw [List.drop_zero];exact zD (by rw [aa];exact zE _)
  refine⟨⟨[(2,⟨[],true,.ptr 0 0 0⟩),(3,⟨[],true,.ptr 1 0 0⟩),(4,⟨[],true,.ptr 2 0 0⟩),(7,⟨[],true,.ptr 3 0 0⟩),(30,⟨[],true,.lst 1 false (aB (fL c))⟩),(31,⟨[],true,.int .i64 ((fL c).length:Int)⟩),(32,⟨[],true,.int .i64 (k:Int)⟩),(47,⟨[],true,.fn 209 [.ptr 4 0 0]⟩)],[(0,.box c.c),(1,.box [.int .i64 n]),(2,.box [.lst 0 true []]),(3,.box [.sl 5 0 e.length]),(4,.box [.lst 1 false (aB l)]),(5,.row 1 (aB e))],6⟩,by rw [Y];exact Vr [some 0,some 1,some 2,some 3,some 15456,some 4],?_⟩
  clear ad ac B ab aa Y z K M T;refine⟨_,5,rfl,by decide,⟨zC _,by show 5<=6;decide⟩,rfl,λy=>?_⟩;have ao:(aB l).length=l.length:=aA _;refine Wy ?_
  refine⟨Nat,λi=>i<=l.length,λi=>⟨[(0,⟨[],true,.val (.func (.yield y) #[] #[])⟩),(1,⟨[],true,.ptr 4 0 0⟩),(3,⟨[],true,.int .i64 (((l.length-i:Nat):Int)-1)⟩)],[(0,.box c.c),(1,.box [.int .i64 n]),(2,.box [.lst 0 true []]),(3,.box [.sl 5 0 (oW c n l e i).length]),(4,.box [.lst 1 false (aB l)]),(5,.row 1 (aB (oW c n l e i)))],6⟩,λ_=>((),none),λi=>l.length-i,⟨0,zC _,?_,rfl⟩,?_⟩
  ·exact Vr [some 0,some 1,some 2,some 3,some 4,some 5]
  intro i hi
  by_cases b3:i<l.length
  ·have hs:=aBO (c:=c) (n:=n) (l:=l) (out:=e) (i:=i);have f:oW c n l e (i+1)=bif decide (((oW c n l e i).length:Int)<n) then(bif aVL c (l.getD (l.length-1-i) 0) then oW c n l e i++ [l.getD (l.length-1-i) 0] else oW c n l e i) else oW c n l e i:=rfl
   have am:=aFM (c:=c) (n:=n) (l:=l) (out:=e) i;have e3:(((l.length-i:Nat):Int)-1)=((l.length-1-i:Nat):Int):=by omega
   have e4:(((l.length- (i+1):Nat):Int)-1)=((l.length-1-i:Nat):Int)-1:=by omega
   have W:l.length-1-i<l.length:=by omega
   have af:(aB l).getD (l.length-1-i) []=[.int .i64 (l.getD (l.length-1-i) 0)]:=aU7 W;have E:l.getD (l.length-1-i) 0∈l:=by rw [List.getD_eq_getElem?_getD,List.getElem?_eq_getElem W];exact List.getElem_mem _
   obtain⟨m,u,m1,m2,m3⟩:=ae _ E;have aq:=aGJ m1 m3;have al:=bBH c ((m+1:Nat):Int) h.sm;rw [aKM m1 m3] at al;have N:aVL c (l.getD (l.length-1-i) 0)=aVM u:=by unfold aVL;rw [m2,show(((m+1:Nat):Int)-1).toNat=m by omega,m3]
   rw [N] at f;rw [m2] at f af;dsimp only;rw [e3];generalize l.length-1-i=j at *;generalize aw:oW c n l e i=o at *;clear N E m2;have ax:(aB o).length=o.length:=aA _;have ah:aB (o++ [((m+1:Nat):Int)])=aB o++ [[.int .i64 ((m+1:Nat):Int)]]:=by simp [aB]
   by_cases c1:(o.length:Int)<n
   ·rw [zdt c1,zct] at f;have hB:(bif (bif (bif true then((u.p.d:Int) != 0) else false) then((u.holds:Int)==0) else false) then((u.wr:Int)==0) else false)=aVM u:=by unfold aVM;cases((u.p.d:Int) != 0)<;> cases((u.holds:Int)==0)<;> cases((u.wr:Int)==0)<;> rfl
    cases O:aVM u with
    |false=> rw [O] at hB f;rw [zcf] at f;refine Wy ?_;refine⟨i+1,b3,?_,rfl,by show l.length- (i+1)<l.length-i;omega⟩;simp only [f,e4];exact Vr [some 0,some 1,some 2,some 3,some 4,some 5]
    |true=> rw [O] at hB f;rw [zct] at f;refine Wy ?_;refine⟨i+1,b3,?_,rfl,by show l.length- (i+1)<l.length-i;omega⟩;simp only [f,e4,ah,zA];exact Vr [some 0,some 1,some 2,some 3,some 4,_]
   ·have C:=hs c1 l.length hi;rw [<-D] at C;have F:=Q (by rw [C];exact c1);rw [hq,C] at F;subst F;refine Wy ?_;exact Lz
  ·obtain rfl:i=l.length:=by omega
   dsimp only;rw [<-D];refine Wy ?_;refine⟨k+1,⟨b,by rw [Z,D];have :=aFM (c:=c) (n:=n) (l:=l) (out:=e) l.length;omega⟩,?_,rfl,by show(fL c).length- (k+1)< (fL c).length-k;omega⟩;simp only [Z];exact Vr [some 0,some 1,some 2,some 3,some 5]
 ·obtain rfl:k=(fL c).length:=by omega
  dsimp only;rw [hq];refine Wy ?_;exact Lz
end Go.Proofs.YtmhapcbjjpadnaaGreat
