/- Caches. -/
import Derived.Test.YtmhapcbjjpadnaaGreatQHc
set_option linter.all false
set_option maxHeartbeats 32000000
set_option maxRecDepth 100000
open List renaming length_append→zA
namespace Go.Proofs.YtmhapcbjjpadnaaGreat
open Go Go.Sk Go.RowKit
noncomputable def c24:Code:=Tryz.f24.body.getD .skip
noncomputable def bMI:cQ Tryz.prog Tryz.f24.ntmps [1,2] [] (cD [0] c24):=⟨_,rfl⟩
noncomputable def bMJ:cQ Tryz.prog Tryz.f24.ntmps [1,2,5] [] (cD [1,0] c24):=⟨_,rfl⟩
noncomputable def bMK:cQ Tryz.prog Tryz.f24.ntmps [1,2,5,6] [] (cD [1,1,0] c24):=⟨_,rfl⟩
noncomputable def bML:cQ Tryz.prog Tryz.f24.ntmps [1,2,5,6] [] (cD [1,1,1,0,0,0,0] c24):=⟨_,rfl⟩
noncomputable def bMM:cQ Tryz.prog Tryz.f24.ntmps [1,2,5,6,7] [] (cD [1,1,1,0,0,0,1,0,0] c24):=⟨_,rfl⟩
noncomputable def bMN:cQ Tryz.prog Tryz.f24.ntmps [1,2,5,6,7,8] [] (cD [1,1,1,0,0,0,1,0,1,0,0] c24):=⟨_,rfl⟩
noncomputable def bMO:cQ Tryz.prog Tryz.f24.ntmps [1,2,5,6,7,8] [] (cD [1,1,1,0,0,0,1,0,1,0,1,0,0,0] c24):=⟨_,rfl⟩
noncomputable def bMP:cQ Tryz.prog Tryz.f24.ntmps [1,2,5,6,7,8] [] (cD [1,1,1,0,0,0,1,0,1,0,1,0,0,1,0,0] c24):=⟨_,rfl⟩
noncomputable def bMQ:cQ Tryz.prog Tryz.f24.ntmps [1,2,5,6,7,8] [] (cD [1,1,1,0,0,0,1,0,1,0,1,0,0,1,1] c24):=⟨_,rfl⟩
noncomputable def bMR:cQ Tryz.prog Tryz.f24.ntmps [1,2,5,6,7] [] (cD [1,1,1,0,0,0,1,0,1,1,0] c24):=⟨_,rfl⟩
noncomputable def bMS:cQ Tryz.prog Tryz.f24.ntmps [1,2,5,6,7] [] (cD [1,1,1,0,0,0,1,0,1,1,1,0] c24):=⟨_,rfl⟩
noncomputable def bMT:cQ Tryz.prog Tryz.f24.ntmps [1,2,5,6,9] [] (cD [1,1,1,0,0,0,1,0,1,1,1,1,0] c24):=⟨_,rfl⟩
noncomputable def bMU:cQ Tryz.prog Tryz.f24.ntmps [1,2,5,6,9,10] [] (cD [1,1,1,0,0,0,1,0,1,1,1,1,1,0] c24):=⟨_,rfl⟩
noncomputable def bMV:cQ Tryz.prog Tryz.f24.ntmps [1,2,5,6,9,10] [] (cD [1,1,1,0,0,0,1,0,1,1,1,1,1,1,0,0,0] c24):=⟨_,rfl⟩
noncomputable def bMW:cQ Tryz.prog Tryz.f24.ntmps [1,2,5,6,9,10] [] (cD [1,1,1,0,0,0,1,0,1,1,1,1,1,1,0,0,1,0,0] c24):=⟨_,rfl⟩
noncomputable def bMX:cQ Tryz.prog Tryz.f24.ntmps [1,2,5,6,9,10] [] (cD [1,1,1,0,0,0,1,0,1,1,1,1,1,1,0,0,1,1] c24):=⟨_,rfl⟩
noncomputable def bMY:cQ Tryz.prog Tryz.f24.ntmps [4] [] (cD [1,1,1,1] c24):=⟨_,rfl⟩
noncomputable def bN9(n0:Nat):sZ Unit:= (dA (bH Tryz.prog n0 bMT.rc) (dA (bH Tryz.prog n0 bMU.rc) (fN 4 (aBN n0 (dA (bH Tryz.prog n0 bMV.rc) (dA (fN 5 (bH Tryz.prog n0 bMW.rc)) (bH Tryz.prog n0 bMX.rc)))))))
noncomputable def S24(n0:Nat):sZ Unit:= (dA (bH Tryz.prog n0 bMI.rc) (dA (bH Tryz.prog n0 bMJ.rc) (dA (bH Tryz.prog n0 bMK.rc) (dA (fN 0 (aBN n0 (dA (bH Tryz.prog n0 bML.rc) (fN 1 (dA (bH Tryz.prog n0 bMM.rc) (dA (dA (bH Tryz.prog n0 bMN.rc) (fN 2 (aBN n0 (dA (bH Tryz.prog n0 bMO.rc) (dA (fN 3 (bH Tryz.prog n0 bMP.rc)) (bH Tryz.prog n0 bMQ.rc)))))) (dA (bH Tryz.prog n0 bMR.rc) (dA (bH Tryz.prog n0 bMS.rc) (aEY n0 (bN9 n0)))))))))) (bH Tryz.prog n0 bMY.rc)))))
theorem bNM(C:Cy Tryz.prog Unit)(_h:C.rd=none):aJ C Tryz.f24.ntmps c24 (S24 C.n0):=
 (aJ.sq (aJ.bas bMI (by rfl)) (aJ.sq (aJ.bas bMJ (by rfl)) (aJ.sq (aJ.bas bMK (by rfl)) (aJ.sq (aJ.bl (aJ.lp (aJ.sq (aJ.bas bML (by rfl)) (aJ.bl (aJ.sq (aJ.bas bMM (by rfl)) (aJ.sq (aJ.sq (aJ.bas bMN (by rfl)) (aJ.bl (aJ.lp (aJ.sq (aJ.bas bMO (by rfl)) (aJ.sq (aJ.bl (aJ.bas bMP (by rfl))) (aJ.bas bMQ (by rfl))))))) (aJ.sq (aJ.bas bMR (by rfl)) (aJ.sq (aJ.bas bMS (by rfl)) (aJ.vw (aJ.sq (aJ.bas bMT (by rfl)) (aJ.sq (aJ.bas bMU (by rfl)) (aJ.bl (aJ.lp (aJ.sq (aJ.bas bMV (by rfl)) (aJ.sq (aJ.bl (aJ.bas bMW (by rfl))) (aJ.bas bMX (by rfl))))))))))))))))) (aJ.bas bMY (by rfl))))))
def snB:Bool->Nat->List (List V)
 |_,0=> [[.bool false],[.bool false]]
 |true,1=> [[.bool false],[.bool true]]
 |false,1=> [[.bool true],[.bool false]]
 |_,_+2=> [[.bool true],[.bool true]]
theorem one {l:List Gr} (h:l.length=1):∃x,l=[x]:=by
 match l,h with
 | [x],_=>exact⟨x,rfl⟩
theorem aFT(c:Dc)(h:Ok c)(t:Nat)(ae:t<c.gr.length)(n:Int)(out o2:List Int)(ho:out.length<=64)(G Z:List (List V))(gl:Nat)(K:Ex->Unit->St->Prop)
 (C:o2=jC c n (uG c (t:Int)) out (uG c (t:Int)).length) (hK:∀W,View 0 W ⟨[(1,⟨[],true,.int .i64 n⟩),(2,⟨[],true,.ptr 0 0 0⟩),(5,⟨[],true,.sl 2 0 o2.length⟩),(6,⟨[],true,.sl 1 0 gl⟩)],[(0,.box [.lst 15 false (aX c.fl),.lst 9 false (aO c.fr),.lst 6 false (aK c.zo),.lst 3 false G,.lst 3 false (aU c.ls),.lst 1 false (aB c.ck),.lst 5 false (aN c.pt)]),(1,.row 1 Z),(2,.row 1 (aB o2))],3⟩->K .normal () W):bN9 0 () ⟨[(1,⟨[],true,.int .i64 n⟩),(2,⟨[],true,.ptr 0 0 0⟩),(5,⟨[],true,.sl 2 0 out.length⟩),(6,⟨[],true,.sl 1 0 gl⟩),(7,⟨[],true,.int .i64 (t:Int)⟩)],[(0,.box [.lst 15 false (aX c.fl),.lst 9 false (aO c.fr),.lst 6 false (aK c.zo),.lst 3 false G,.lst 3 false (aU c.ls),.lst 1 false (aB c.ck),.lst 5 false (aN c.pt)]),(1,.row 1 Z),(2,.row 1 (aB out))],3⟩ K:=by
 have hl:t<c.ls.length:=by rw [h.nl];exact ae
 have ak:=h.nr;have z:=eC c.ls t hl;have aa:∀x∈uG c (t:Int),∃m u,m<c.fr.length/\x=((m+1:Nat):Int)/\c.fr.getD m none=some u:=λx hx=>by obtain⟨m,u,a1,a2,a3,-⟩:=h.mem t x hl (List.mem_append.1 hx);exact⟨m,u,a1,a2,a3⟩
 have D:=((bF _).1 (h.ls t hl)).len;have f:uG c (t:Int)=(c.ls.getD t l0).A++(c.ls.getD t l0).I:=rfl;generalize uG c (t:Int)=l at *;generalize c.ls.getD t l0=la at *;obtain⟨A,I,R⟩:=la;dsimp only at f D;have z:(aU c.ls).getD t []=[.lst 1 false (aB A),.lst 1 false (aB I),.lst 1 false (aB R)]:=z;have aj:l.length=A.length+I.length:=by rw [f,zA]
 rw [zA] at D;have E:(aB A).length=A.length:=aA _;have F:(aB I).length=I.length:=aA _;have N:aB l=aB A++aB I:=by rw [f];simp [aB]
 have ag:(aB l).length=l.length:=aA _;have O:(aB A++aB I).length=A.length+I.length:=by rw [zA,E,F]
 have T:((aB A++aB I).drop 0).take (A.length+I.length)=aB A++aB I:=by rw [List.drop_zero];exact List.take_of_length_le (by rw [O];exact Nat.le_refl _)
 have ah:(aB out).length=out.length:=aA _;refine Wy ?_
 refine⟨Nat,λi=>i<=l.length,λi=>⟨[(1,⟨[],true,.int .i64 n⟩),(2,⟨[],true,.ptr 0 0 0⟩),(5,⟨[],true,.sl 2 0 (jC c n l out i).length⟩),(6,⟨[],true,.sl 1 0 gl⟩),(9,⟨[],true,.lst 1 false (aB l)⟩),(10,⟨[],true,.int .i64 (((l.length-i:Nat):Int)-1)⟩)],[(0,.box [.lst 15 false (aX c.fl),.lst 9 false (aO c.fr),.lst 6 false (aK c.zo),.lst 3 false G,.lst 3 false (aU c.ls),.lst 1 false (aB c.ck),.lst 5 false (aN c.pt)]),(1,.row 1 Z),(2,.row 1 (aB (jC c n l out i)))],3⟩,λ_=>(),λi=>l.length-i,⟨0,Nat.zero_le _,?_,rfl⟩,?_⟩
 ·simp only [N];exact Vr [some 0,some 1,some 2]
 clear z N T O E F;intro i hi;have hs:=vK (c:=c) (n:=n) (l:=l) (out:=out) (i:=i);have e:jC c n l out (i+1)=bif decide (((jC c n l out i).length:Int)<n) then(bif aNP c (l.getD (l.length-1-i) 0) then jC c n l out i++ [l.getD (l.length-1-i) 0] else jC c n l out i) else jC c n l out i:=rfl
 have af:=lG (c:=c) (n:=n) (l:=l) (out:=out) i
 by_cases b3:i<l.length
 ·have e3:(((l.length-i:Nat):Int)-1)=((l.length-1-i:Nat):Int):=by omega
  have e4:(((l.length- (i+1):Nat):Int)-1)=((l.length-1-i:Nat):Int)-1:=by omega
  have M:l.length-1-i<l.length:=by omega
  have ac:(aB l).getD (l.length-1-i) []=[.int .i64 (l.getD (l.length-1-i) 0)]:=aC9 M;have B:l.getD (l.length-1-i) 0∈l:=by rw [List.getD_eq_getElem?_getD,List.getElem?_eq_getElem M];exact List.getElem_mem _
  obtain⟨m,u,m1,m2,m3⟩:=aa _ B;have ai:=qA m1 m3;have H:aNP c (l.getD (l.length-1-i) 0)=aL5 u:=by unfold aNP;rw [m2,show(((m+1:Nat):Int)-1).toNat=m by omega,m3]
  rw [H] at e;rw [m2] at e ac;dsimp only;rw [e3];generalize l.length-1-i=j at *;generalize al:jC c n l out i=o at *;clear H B m2;have am:(aB o).length=o.length:=aA _;have ad:aB (o++ [((m+1:Nat):Int)])=aB o++ [[.int .i64 ((m+1:Nat):Int)]]:=by simp [aB]
  by_cases Y:(o.length:Int)<n
  ·have ab:(bif true then decide ((o.length:Int)<n) else false)=true:=zdt Y;rw [zdt Y,zct] at e;have hB:(bif (bif ((u.p.d:Int) != 0) then((u.holds:Int)==0) else false) then((u.wr:Int)==0) else false)=aL5 u:=by unfold aL5;cases((u.p.d:Int) != 0)<;> cases((u.holds:Int)==0)<;> cases((u.wr:Int)==0)<;> rfl
   clear hK
   cases J:aL5 u with
   |false=> rw [J] at hB e;rw [zcf] at e;refine Wy ?_;refine⟨i+1,b3,?_,rfl,by show l.length- (i+1)<l.length-i;omega⟩;simp only [e,e4];exact Vr [some 0,some 1,some 2]
   |true=> rw [J] at hB e;rw [zct] at e;refine Wy ?_;refine⟨i+1,b3,?_,rfl,by show l.length- (i+1)<l.length-i;omega⟩;simp only [e,e4,ad,zA];exact Vr [some 0,some 1,_]
  ·have ab:(bif true then decide ((o.length:Int)<n) else false)=false:=zdf Y;have Q:=hs Y l.length hi;rw [Q] at C;subst C;refine Wy ?_;refine hK _ ?_;exact Vr [some 0,some 1,some 2]
 ·obtain rfl:i=l.length:=by omega
  dsimp only;rw [<-C];refine Wy ?_;refine hK _ ?_;exact Vr [some 0,some 1,some 2]
end Go.Proofs.YtmhapcbjjpadnaaGreat
