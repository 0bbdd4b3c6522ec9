/- Caches. -/
import Derived.Test.YtmhapcbjjpadnaaGreatQGg
import Derived.Test.YtmhapcbjjpadnaaGreatQFg
set_option linter.all false
set_option maxHeartbeats 32000000
set_option maxRecDepth 100000
open List renaming length_append→zA,take_of_length_le→zD
open Nat renaming zero_le→zC,le_refl→zE
namespace Go.Proofs.YtmhapcbjjpadnaaGreat
open Go Go.Sk Go.RowKit
def aX9(u:Us):Bool:=bif ((u.p.d:Int) != 0) then(bif ((u.holds:Int)==0) then((u.wr:Int)==0) else false) else false
def aX8(c:Dc)(x:Int):Bool:=match c.fr.getD (x-1).toNat none with |some u=>aX9 u |none=>false
def pL(c:Dc)(n:Int)(l out:List Int):Nat->List Int
 |0=>out
 |i+1=>bif decide (((pL c n l out i).length:Int)<n) then(bif aX8 c (l.getD (l.length-1-i) 0) then pL c n l out i++ [l.getD (l.length-1-i) 0] else pL c n l out i) else pL c n l out i
def lsT(c:Dc)(t:Int):List Int:=(c.ls.getD t.toNat l0).A++(c.ls.getD t.toNat l0).I
def tX(c:Dc)(n:Int)(O:List Int):Nat->List Int
 |0=> []
 |k+1=>pL c n (lsT c (O.getD k 0)) (tX c n O k) (lsT c (O.getD k 0)).length
theorem aCM {c:Dc} {n:Int} {l out:List Int} {i:Nat} (h:¬((pL c n l out i).length:Int)<n):∀j,i<=j->pL c n l out j=pL c n l out i
 |0,f=>by
  obtain rfl:i=0:=by omega
  rfl
 |j+1,f=>by
  by_cases e:i=j+1
  ·rw [e]
  ·rw [pL,aCM h j (by omega),zdf h,zcf]
theorem aJ6 {c:Dc} {n:Int} {O:List Int} {i:Nat} (h:¬((tX c n O i).length:Int)<n):∀j,i<=j->tX c n O j=tX c n O i
 |0,f=>by
  obtain rfl:i=0:=by omega
  rfl
 |j+1,f=>by
  by_cases e:i=j+1
  ·rw [e]
  ·rw [tX,aJ6 h j (by omega)];exact aCM (i:=0) h _ (zC _)
theorem aGP {c:Dc} {n:Int} {l out:List Int} :∀i,(pL c n l out i).length<=out.length+i
 |0=>zE _
 |i+1=>by
  have e:=aGP (c:=c) (n:=n) (l:=l) (out:=out) i;rw [pL]
  cases decide (((pL c n l out i).length:Int)<n) with
  |false=>rw [zcf];omega
  |true=>
   rw [zct]
   cases aX8 c (l.getD (l.length-1-i) 0) with
   |false=>rw [zcf];omega
   |true=>rw [zct,zA];simp;omega
theorem aO8 {c:Dc} (h:c.gr.length=1\/c.gr.length=2):(fQ c).length=c.gr.length:=by
 unfold fQ aOY;rcases h with h |h
 ·rw [h];rfl
 ·rw [h];cases decide (exT c 0<exT c 1)<;> rfl
theorem aZS {c:Dc} (h:c.gr.length=1\/c.gr.length=2) {k:Nat} (e:k< (fQ c).length):∃t:Nat,(fQ c).getD k 0=(t:Int)/\t<c.gr.length:=by
 rw [aO8 h] at e;unfold fQ aOY;rcases h with h |h
 ·rw [h] at e⊢;obtain rfl:k=0:=by omega
  exact⟨0,rfl,by omega⟩
 ·rw [h] at e⊢;have e:k=0\/k=1:=by omega
  rcases e with rfl |rfl <;> cases decide (exT c 0<exT c 1)
  ·exact⟨0,rfl,by omega⟩
  ·exact⟨1,rfl,by omega⟩
  ·exact⟨1,rfl,by omega⟩
  ·exact⟨0,rfl,by omega⟩
def aO7(k:Nat):List Int:=(List.range k).map Int.ofNat
theorem aVD(k:Nat):aB (aO7 (k+1))=aB (aO7 k)++ [[.int .i64 (k:Int)]]:=by unfold aO7 aB;rw [List.range_succ];simp
theorem aH8(k:Nat):(aO7 k).length=k:=by simp [aO7]
noncomputable def bQX:Rsv Tryz.prog Tryz.f106 [] 1:=⟨_,_,rfl,rfl⟩
theorem bIZ(e:List (List V))(k:Nat):aM Tryz.prog 106 [.row 1 e] [.sl 0 0 k] (.fn 209 [.ptr 1 0 0]) [.row 1 e,.box [.sl 0 0 k]]:=by refine cQ bQX (ob0:= [_]) Tryz.func106 rfl rfl rfl ?_;exact Wo2
noncomputable def c23:Code:=Tryz.f23.body.getD .skip
noncomputable def bL9:dR Tryz.prog Tryz.f23.ntmps [2,3,4] [] (cT [0] c23):=⟨_,rfl⟩
noncomputable def bLA:dR Tryz.prog Tryz.f23.ntmps [2,3,4,5] [] (cT [1,0] c23):=⟨_,rfl⟩
noncomputable def bLB:dR Tryz.prog Tryz.f23.ntmps [2,3,4,5] [] (cT [1,1,0] c23):=⟨_,rfl⟩
noncomputable def bLC:dR Tryz.prog Tryz.f23.ntmps [2,3,4,5] [] (cT [1,1,1,0] c23):=⟨_,rfl⟩
noncomputable def bLD:dR Tryz.prog Tryz.f23.ntmps [2,3,4,5,7] [] (cT [1,1,1,1,0] c23):=⟨_,rfl⟩
noncomputable def bLE:dR Tryz.prog Tryz.f23.ntmps [2,3,4,7,30,31,32] [] (cT [1,1,1,1,1,0,0] c23):=⟨_,rfl⟩
noncomputable def bLF:dR Tryz.prog Tryz.f23.ntmps [2,3,4,7,30,31,32,33] [] (cT [1,1,1,1,1,0,1,0,0,0] c23):=⟨_,rfl⟩
noncomputable def bLG:dR Tryz.prog Tryz.f23.ntmps [2,3,4,7,30,31,32] [] (cT [1,1,1,1,1,0,1,0,0,1,0] c23):=⟨_,rfl⟩
noncomputable def bLH:dR Tryz.prog Tryz.f23.ntmps [2,3,4,7,9,30,31,32] [] (cT [1,1,1,1,1,0,1,0,0,1,1,0,0,0] c23):=⟨_,rfl⟩
noncomputable def bLI:dR Tryz.prog Tryz.f23.ntmps [2,3,4,7,10,30,31,32] [] (cT [1,1,1,1,1,0,1,0,0,1,1,0,0,1,0] c23):=⟨_,rfl⟩
noncomputable def bLJ:dR Tryz.prog Tryz.f23.ntmps [2,3,4,7,30,31,32,47] [] (cT [1,1,1,1,1,0,1,0,0,1,1,0,0,1,1,0] c23):=⟨_,rfl⟩
noncomputable def bLK:dR Tryz.prog Tryz.f23.ntmps [2,3,4,7,12] [] (cT [1,1,1,1,1,0,1,0,0,1,1,0,0,1,1,1,0,0] c23):=⟨_,rfl⟩
noncomputable def bLM:dR Tryz.prog Tryz.f23.ntmps [2,3,4,7] [] (cT [1,1,1,1,1,0,1,0,0,1,1,0,0,1,1,1,0,1] c23):=⟨_,rfl⟩
noncomputable def bLL:dR Tryz.prog Tryz.f23.ntmps [2,3,4,7,30,31,32] [] (cT [1,1,1,1,1,0,1,0,0,1,1,1] c23):=⟨_,rfl⟩
noncomputable def bLN:dR Tryz.prog Tryz.f23.ntmps [4] [] (cT [1,1,1,1,1,1] c23):=⟨_,rfl⟩
noncomputable def S23(n0:Nat):sY Unit:= eN (bY Tryz.prog n0 bL9.rc) (eN (bY Tryz.prog n0 bLA.rc) (eN (bY Tryz.prog n0 bLB.rc) (eN (bY Tryz.prog n0 bLC.rc) (eN (bY Tryz.prog n0 bLD.rc) (eN (eN (aHY n0 (bY Tryz.prog n0 bLE.rc)) (iX 2 (aJ8 n0 (eN (bY Tryz.prog n0 bLF.rc) (eN (bY Tryz.prog n0 bLG.rc) (eN (iX 3 (eN (bY Tryz.prog n0 bLH.rc) (eN (bY Tryz.prog n0 bLI.rc) (eN (bY Tryz.prog n0 bLJ.rc) (iX 4 (aHY n0 (aHE n0 (.t 47) 209 Tryz.f209.ntmps [48,49] (λm=>bY Tryz.prog m bLK.rc) (λm=>bY Tryz.prog m bLM.rc) bHN))))))) (bY Tryz.prog n0 bLL.rc))))))) (bY Tryz.prog n0 bLN.rc))))))
theorem bR5(C:Cy Tryz.prog Unit)(h:C.rd=none):aK C Tryz.f23.ntmps c23 (S23 C.n0):=
 aK.sq (aK.bas bL9 (by rfl)) (aK.sq (aK.bas bLA (by rfl)) (aK.sq (aK.bas bLB (by rfl)) (aK.sq (aK.bas bLC (by rfl)) (aK.sq (aK.bas bLD (by rfl)) (aK.sq (aK.sq (aK.vw (aK.bas bLE (by rfl))) (aK.bl (aK.lp (aK.sq (aK.bas bLF (by rfl)) (aK.sq (aK.bas bLG (by rfl)) (aK.sq (aK.bl (aK.sq (aK.bas bLH (by rfl)) (aK.sq (aK.bas bLI (by rfl)) (aK.sq (aK.bas bLJ (by rfl)) (aK.bl (aK.vw (aK.rg h rfl (ps:= #[48,49]) (by decide) Tryz.func209 rfl rfl rfl (λC2 _=>aK.bas bLK (by rfl)) (λC2 _=>aK.bas bLM (by rfl)) (λj l e _ f=>bFQ j l e f)))))))) (aK.bas bLL (by rfl)))))))) (aK.bas bLN (by rfl)))))))
theorem bRM(c:Dc)(h:Ok c)(h2:c.gr.length=1\/c.gr.length=2)(n:Int):aM Tryz.prog 23 [] [.agg c.c,.int .i64 n] (.lst 1 false (aB (tX c n (fQ c) (fQ c).length))) []:=by
 generalize hq:tX c n (fQ c) (fQ c).length=q;have ap:(aR c.gr).length=c.gr.length:=by simp [aR]
 have hol:=aO8 h2;have av:=h.nr;refine fnE Tryz.func23 rfl rfl rfl bR5 ?_;refine Wy ?_;refine Lp (λi:Nat=>i<=c.gr.length) (λi=> [(16,.int .i64 (i:Int)),(5,.sl 3 0 (aO7 i).length)]) (λi=> [(3,.row 1 (aB (aO7 i)))]) (λi=>c.gr.length-i) 0 (zC _) ?_ ?_
 ·exact Vr [some 0,some 1,some 2,none]
 intro i hi
 by_cases b:i<c.gr.length
 ·have ak:=bJX c h (i:Int);rw [zdt (show 0<=(i:Int)/\(i:Int)< (c.gr.length:Int) by omega)] at ak;have hs:=aVD i;have H:=aH8 i;have ag:=aH8 (i+1);refine Wy ?_;refine Le (i+1) (hv:=?_);simp only [hs,ag];exact Vr [some 0,some 1,some 2,_]
 obtain rfl:i=c.gr.length:=by omega
 have G:=bN0 c h.gr c.gr.length h2 rfl;rw [show(List.range c.gr.length).map Int.ofNat=aO7 c.gr.length from rfl] at G;have H:=aH8 c.gr.length;rw [H];refine Wy ?_;have hr:(aB (fQ c)).length=c.gr.length:=by rw [aA,hol]
 have ai:((aB (fQ c)).drop 0).take c.gr.length=aB (fQ c):=by rw [List.drop_zero];exact zD (by rw [hr];exact zE _)
 refine⟨⟨[(2,⟨[],true,.ptr 0 0 0⟩),(3,⟨[],true,.ptr 1 0 0⟩),(4,⟨[],true,.ptr 2 0 0⟩),(5,⟨[],true,.lst 1 false (aB (fQ c))⟩),(7,⟨[],true,.ptr 3 0 0⟩)],[(0,.box c.c),(1,.box [.int .i64 n]),(2,.box [.lst 0 true []]),(3,.box [.lst 0 true []])],4⟩,Vr [some 0,some 1,some 2,some 20],?_⟩;clear G;refine Wy ?_
 refine⟨Nat,λk=>k<=(fQ c).length/\(tX c n (fQ c) k).length<=64*k,λk=>⟨[(2,⟨[],true,.ptr 0 0 0⟩),(3,⟨[],true,.ptr 1 0 0⟩),(4,⟨[],true,.ptr 2 0 0⟩),(7,⟨[],true,.ptr 3 0 0⟩),(30,⟨[],true,.lst 1 false (aB (fQ c))⟩),(31,⟨[],true,.int .i64 ((fQ c).length:Int)⟩),(32,⟨[],true,.int .i64 (k:Int)⟩)],[(0,.box c.c),(1,.box [.int .i64 n]),(2,.box [.lst 0 true []]),(3,.box [.sl 4 0 (tX c n (fQ c) k).length]),(4,.row 1 (aB (tX c n (fQ c) k)))],5⟩,λ_=>(),λk=>(fQ c).length-k,⟨0,⟨zC _,zE _⟩,?_,rfl⟩,?_⟩
 ·exact Vr [some 0,some 1,some 2,some 3,none]
 rintro k ⟨hk,ar⟩;clear ai
 by_cases b:k< (fQ c).length
 ·obtain⟨t,ht,aj⟩:=aZS h2 b;have T:(aB (fQ c)).getD k []=[.int .i64 ((fQ c).getD k 0)]:=aOP b;rw [ht] at T;have D:tX c n (fQ c) (k+1)=pL c n (lsT c ((fQ c).getD k 0)) (tX c n (fQ c) k) (lsT c ((fQ c).getD k 0)).length:=rfl;have Q:=λ(a:¬((tX c n (fQ c) (k+1)).length:Int)<n)=>aJ6 a (fQ c).length b
  have H:t<c.ls.length:=by rw [h.nl];exact aj
  have B:=gE c.ls t H;have ae:∀x∈lsT c t,∃m u,m<c.fr.length/\x=((m+1:Nat):Int)/\c.fr.getD m none=some u:=λx hx=>by obtain⟨m,u,a1,a2,a3,-⟩:=h.mem t x H (List.mem_append.1 hx);exact⟨m,u,a1,a2,a3⟩
  have J:=((bX _).1 (h.ls t H)).len;have z:lsT c t=(c.ls.getD t l0).A++(c.ls.getD t l0).I:=rfl;rw [ht] at D;dsimp only;generalize Z:tX c n (fQ c) (k+1)=o2 at *;generalize tX c n (fQ c) k=e at *;generalize lsT c t=l at *;generalize c.ls.getD t l0=la at *;obtain⟨A,I,R⟩:=la;dsimp only at z J;have B:(bA c.ls).getD t []=[.lst 1 false (aB A),.lst 1 false (aB I),.lst 1 false (aB R)]:=B;have au:l.length=A.length+I.length:=by rw [z,zA]
  rw [zA] at J;have K:(aB A).length=A.length:=aA _;have M:(aB I).length=I.length:=aA _;have Y:aB l=aB A++aB I:=by rw [z];simp [aB]
  have ad:=sO (aB A) false (by omega);have ac:=bIZ (aB A++aB I) (A.length+I.length);refine Wy ?_;have aa:(aB A++aB I).length=A.length+I.length:=by rw [zA,K,M]
  have ab:((aB A++aB I).drop 0).take (A.length+I.length)=aB A++aB I:=by rw [List.drop_zero];exact zD (by rw [aa];exact zE _)
  refine⟨⟨[(2,⟨[],true,.ptr 0 0 0⟩),(3,⟨[],true,.ptr 1 0 0⟩),(4,⟨[],true,.ptr 2 0 0⟩),(7,⟨[],true,.ptr 3 0 0⟩),(30,⟨[],true,.lst 1 false (aB (fQ c))⟩),(31,⟨[],true,.int .i64 ((fQ c).length:Int)⟩),(32,⟨[],true,.int .i64 (k:Int)⟩),(47,⟨[],true,.fn 209 [.ptr 4 0 0]⟩)],[(0,.box c.c),(1,.box [.int .i64 n]),(2,.box [.lst 0 true []]),(3,.box [.sl 5 0 e.length]),(4,.box [.lst 1 false (aB l)]),(5,.row 1 (aB e))],6⟩,by rw [Y];exact Vr [some 0,some 1,some 2,some 3,some 15456,some 4],?_⟩
  clear ad ac B ab aa Y z K M T;refine⟨_,5,rfl,by decide,⟨zC _,by show 5<=6;decide⟩,rfl,λy=>?_⟩;have ao:(aB l).length=l.length:=aA _;refine Wy ?_
  refine⟨Nat,λi=>i<=l.length,λi=>⟨[(0,⟨[],true,.val (.func (.yield y) #[] #[])⟩),(1,⟨[],true,.ptr 4 0 0⟩),(3,⟨[],true,.int .i64 (((l.length-i:Nat):Int)-1)⟩)],[(0,.box c.c),(1,.box [.int .i64 n]),(2,.box [.lst 0 true []]),(3,.box [.sl 5 0 (pL c n l e i).length]),(4,.box [.lst 1 false (aB l)]),(5,.row 1 (aB (pL c n l e i)))],6⟩,λ_=>((),none),λi=>l.length-i,⟨0,zC _,?_,rfl⟩,?_⟩
  ·exact Vr [some 0,some 1,some 2,some 3,some 4,some 5]
  intro i hi
  by_cases b3:i<l.length
  ·have hs:=aCM (c:=c) (n:=n) (l:=l) (out:=e) (i:=i);have f:pL c n l e (i+1)=bif decide (((pL c n l e i).length:Int)<n) then(bif aX8 c (l.getD (l.length-1-i) 0) then pL c n l e i++ [l.getD (l.length-1-i) 0] else pL c n l e i) else pL c n l e i:=rfl
   have am:=aGP (c:=c) (n:=n) (l:=l) (out:=e) i;have e3:(((l.length-i:Nat):Int)-1)=((l.length-1-i:Nat):Int):=by omega
   have e4:(((l.length- (i+1):Nat):Int)-1)=((l.length-1-i:Nat):Int)-1:=by omega
   have W:l.length-1-i<l.length:=by omega
   have af:(aB l).getD (l.length-1-i) []=[.int .i64 (l.getD (l.length-1-i) 0)]:=aOP W;have E:l.getD (l.length-1-i) 0∈l:=by rw [List.getD_eq_getElem?_getD,List.getElem?_eq_getElem W];exact List.getElem_mem _
   obtain⟨m,u,m1,m2,m3⟩:=ae _ E;have aq:=qW m1 m3;have al:=bDI c ((m+1:Nat):Int) h.sm;rw [mU m1 m3] at al;have N:aX8 c (l.getD (l.length-1-i) 0)=aX9 u:=by unfold aX8;rw [m2,show(((m+1:Nat):Int)-1).toNat=m by omega,m3]
   rw [N] at f;rw [m2] at f af;dsimp only;rw [e3];generalize l.length-1-i=j at *;generalize aw:pL c n l e i=o at *;clear N E m2;have ax:(aB o).length=o.length:=aA _;have ah:aB (o++ [((m+1:Nat):Int)])=aB o++ [[.int .i64 ((m+1:Nat):Int)]]:=by simp [aB]
   by_cases c1:(o.length:Int)<n
   ·rw [zdt c1,zct] at f;have hB:(bif (bif (bif true then((u.p.d:Int) != 0) else false) then((u.holds:Int)==0) else false) then((u.wr:Int)==0) else false)=aX9 u:=by unfold aX9;cases((u.p.d:Int) != 0)<;> cases((u.holds:Int)==0)<;> cases((u.wr:Int)==0)<;> rfl
    cases O:aX9 u with
    |false=> rw [O] at hB f;rw [zcf] at f;refine Wy ?_;refine⟨i+1,b3,?_,rfl,by show l.length- (i+1)<l.length-i;omega⟩;simp only [f,e4];exact Vr [some 0,some 1,some 2,some 3,some 4,some 5]
    |true=> rw [O] at hB f;rw [zct] at f;refine Wy ?_;refine⟨i+1,b3,?_,rfl,by show l.length- (i+1)<l.length-i;omega⟩;simp only [f,e4,ah,zA];exact Vr [some 0,some 1,some 2,some 3,some 4,_]
   ·have C:=hs c1 l.length hi;rw [<-D] at C;have F:=Q (by rw [C];exact c1);rw [hq,C] at F;subst F;refine Wy ?_;exact Lz
  ·obtain rfl:i=l.length:=by omega
   dsimp only;rw [<-D];refine Wy ?_;refine⟨k+1,⟨b,by rw [Z,D];have :=aGP (c:=c) (n:=n) (l:=l) (out:=e) l.length;omega⟩,?_,rfl,by show(fQ c).length- (k+1)< (fQ c).length-k;omega⟩;simp only [Z];exact Vr [some 0,some 1,some 2,some 3,some 5]
 ·obtain rfl:k=(fQ c).length:=by omega
  dsimp only;rw [hq];refine Wy ?_;exact Lz
end Go.Proofs.YtmhapcbjjpadnaaGreat
