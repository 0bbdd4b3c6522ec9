/- Caches. -/
import Derived.Test.YtmhapcbjjpadnaaGreatQSo
import Derived.Test.YtmhapcbjjpadnaaGreatQGo
import Derived.Test.YtmhapcbjjpadnaaGreatQHo
import Derived.Test.YtmhapcbjjpadnaaGreatQIo
import Derived.Test.YtmhapcbjjpadnaaGreatGOo
set_option linter.all false
set_option maxHeartbeats 16000000
set_option maxRecDepth 40000
open List renaming replicate→zA,map_replicate→zC
namespace Go.Proofs.YtmhapcbjjpadnaaGreat
open Go Go.Sk Go.RowKit
def f1C(z:List Zn)(g:List Gr):Dc:=⟨[⟨0,0,eE,0,0,0,0⟩],zA (szF z).toNat none,z,g,zA g.length l0,zA g.length 0,[]⟩
theorem bKJ {z:List Zn} {g:List Gr} (D:aUX z)(hg:nR g=true):Ok (f1C z g):=by
 have h:=bDM D hg
 have m:∀f,f<1->(f1C z g).fl.getD f bC=(c0 z g).fl.getD f bC:=λf m=>by
  obtain rfl:f=0:=by omega
  rfl
 have j:∀n,(f1C z g).fr.getD n none=none:=λn=>by show(zA _ none).getD n none=none;rw [List.getD_eq_getElem?_getD,List.getElem?_replicate];split <;> rfl
 refine⟨by show 1<=3;omega,h.nr,h.ng,h.nl,h.nk,λf e=>by rw [m f e];exact h.file f (by show f<3;have :f<1:=e;omega),λn u E C=>(by rw [j] at C;cases C),λf p e B=>?_,h.zone,h.free,h.gr,h.ls,h.mem,h.ck,h.pt⟩
 rw [m f e] at B;obtain⟨n,u,k1,k2,k3,-⟩:=h.ent f p (by show f<3;have :f<1:=e;omega) B;have k3:(f1C z g).fr.getD n none=some u:=k3;rw [j] at k3;cases k3
theorem bKI(z:List Zn)(g:List Gr):uY (aN0 [(0,0)] z g) (.agg (f1C z g).c):=by
 unfold aN0 f1C Dc.c;refine .aggs (.cons (.refl _) (.cons ?_ (.cons (.refl _) (.cons (.refl _) (.cons ?_ (.cons ?_ (.cons .nils .nil)))))))
 ·show uY (.lst 9 false (rT (zA (szF z).toNat fre))) (.lst 9 false (aY (zA (szF z).toNat none)));unfold rT aY;rw [zC,zC];exact .refl _
 ·show uY (.lst 3 false (zA g.length [bV,bV,bV])) (.lst 3 false ((zA g.length l0).map Ls.c));rw [show zA g.length [bV,bV,bV]=(zA g.length l0).map λ_=> [bV,bV,bV] by rw [zC]];refine .rows (λh=>h) λx e=>?_;obtain rfl:=List.eq_of_mem_replicate e;exact .cons .nils (.cons .nils (.cons .nils .nil))
 ·show uY (.lst 1 false (zA g.length [.int .i64 0])) (.lst 1 false (aB (zA g.length 0)));rw [aB,zC];exact .refl _
def w0:Dc:=f1C (newF [8]).1 [⟨8,0,0⟩]
theorem bO8:Ok w0:=bKJ (aFT (by decide +kernel)) (by decide +kernel)
theorem bIG:aN Tryz.prog 29 [] [.lst 2 false (rS [(0,0)]),.lst 1 false (aB [8]),.lst 3 false (aR [⟨8,0,0⟩])] (.tup [.agg w0.c,.int .i64 0]) []:=by
 have k:=bF9 [(0,0)] false [8] false [⟨8,0,0⟩] false (by decide) (by decide) (by decide);have e:aN1 [(0,0)] [8] [⟨8,0,0⟩]=(aN0 [(0,0)] (newF [8]).1 [⟨8,0,0⟩],0):=by unfold aN1;rw [show nR [⟨8,0,0⟩]=true from by decide +kernel,show(newF [8]).2=0 from by decide +kernel,show aBP [(0,0)]=true from by decide,show aSX [⟨8,0,0⟩]=true from by decide];rfl
 rw [e] at k;exact k.le (mC.refl _) (.tups (.cons (bKI _ _) (.cons (.refl _) .nil))) (oS.refl _)
def wI:Nat->Dc
 |0=>w0
 |k+1=>(mU (wI k) 0 (k:Int) 0 0 true).1
theorem aSC:∀k,Ok (wI k)
 |0=>bO8
 |k+1=>aDY (aSC k) _ _ _ _ _
def sA:ByteArray:=⟨#[97]⟩
def wE:Dc:=(aDM (wI 4) 0 0 sA).1
theorem bOA:Ok wE:=aSH (aSC 4) _ _ _
theorem f1:(nK (wI 4) 2).2=2:=by decide +kernel
theorem f2:(findF ((nK (wI 4) 2).1.fl.getD 0 bC).E 0).2=false:=by decide +kernel
theorem f3:(findF ((nK (wI 4) 2).1.fl.getD 0 bC).E 2).2=true:=by decide +kernel
theorem f4:(aKL (wI 4) 0 9).2=4/\(aKL (wI 4) 0 9).1.fr.length=8:=by decide +kernel
theorem f5:(sX wE 3 (fL wE) (fL wE).length).length=1:=by decide +kernel
theorem f6:aYK (wI 4) 0 4 true=true/\aYK (wI 4) 0 5 true=false:=by decide +kernel
theorem f7:(nK (wI 4) 2).1.fl.length=1:=by decide +kernel
theorem bDX {P:Program} {f:FuncId} {S:aD} {m:Nat} {K:V->aD->Nat->Prop} {args e:List V} {A B X D:Prop} (z:List Nat)(j:V)(k:aN P f [] e j [])(E:args.map (pur S)=e)(F:args.all (puB S)=true)(G:args.all (aCD z)=true)(C:K j (jK S z) (m+1)):mB A B ((true=true->qT P f args S m K)/\(true=false->X)) D:=by subst E;exact .frz ⟨λ_=>⟨z,j,k,aA7 F G,C⟩,λh=>by cases h⟩
theorem aO5 {c:Dc} (h:c.pt=[]):∀k,(gY c k).ls=c.ls/\(gY c k).pt=[]
 |0=>⟨rfl,h⟩
 |k+1=>by
  obtain⟨e,f⟩:=aO5 h k;rw [gY,f];split
  ·rw [show yB [] ((k+1:Nat):Int) ([]:List Pt).length=false from rfl,zcf];exact⟨e,rfl⟩
  ·exact⟨e,rfl⟩
theorem bFQ {c:Dc} (e:c.pt=[]):Sim (gY c c.fr.length) c:=by obtain⟨f,h2⟩:=aO5 e c.fr.length;rw [(vA c c.fr.length).1];exact⟨rfl,rfl,aJS _,rfl,f,rfl,h2.trans e.symm⟩
theorem bOB:Sim (gY (wI 4) (wI 4).fr.length) (wI 4):=bFQ (List.isEmpty_iff.1 (show(wI 4).pt.isEmpty=true by decide +kernel))
theorem bO9:wE.gr.length=1:=by decide +kernel
theorem bCF {c:Dc} (h:Ok c)(n:Int):Ok (nK c n).1/\(nK c n).1.fr.length=c.fr.length/\(nK c n).1.gr.length=c.gr.length:=by
 unfold nK
 cases decide (n<1) with
 |true=>exact⟨h.x,rfl,rfl⟩
 |false=>
  rw [zcf];unfold bCE;have a:=aEK h c.fr.length;have e:(gY c c.fr.length).gr=c.gr:=by rw [(vA c c.fr.length).1]
  have f:(gY c c.fr.length).fr=c.fr:=by rw [(vA c c.fr.length).1]
  have k:=aKA a (aBA c.gr n.toNat 2).1 c.gr.length (by rw [e];exact Nat.le_refl _);have k2:=aKB k (n.toNat:Int) c.gr.length (by rw [e];exact Nat.le_refl _);exact⟨k2.ok,k2.fr.trans (by rw [f]),k2.gr.trans (by rw [e])⟩
noncomputable def R27:Rsv Tryz.prog Tryz.f27 [] 0:=⟨_,_,rfl,rfl⟩
theorem bPK:aN Tryz.prog 27 [] [] (.bool true) []:=by
 have j:=bIG;refine fnZ R27 Tryz.func27 ?_;refine Wy ?_;refine bDX [0,1,2] _ j rfl rfl rfl ?_;refine Wy ?_;refine Lp (λk:Nat=>k<=4) (λk=> [(3,.int .i64 (k:Int)),(1,.ptr 0 0 0)]) (λk=> [(0,.box (wI k).c)]) (λk=>4-k) 0 (Nat.zero_le _) ?_ ?_
 ·rw [show wI 0=w0 from rfl];clear j;generalize w0=C0;exact Vr [some 4]
 intro k hk;clear j
 by_cases b:k<4
 ·have ad:=bMZ (wI k) (aSC k) 0 (k:Int) 0 0 true;have K:wI (k+1)=(mU (wI k) 0 (k:Int) 0 0 true).1:=rfl;generalize Z:wI (k+1)=W at *;generalize mU (wI k) 0 (k:Int) 0 0 true=r at *;generalize wI k=V at *;refine Wy ?_;refine Le (k+1) (hv:=?_);simp only [Z,K];exact Vr [some 0]
 obtain rfl:k=4:=by omega
 have e:=aSC 4;have Q:aDM (wI 4) 0 0 sA=(wE,(aDM (wI 4) 0 0 sA).2):=rfl;have N:=bM8 (wI 4) e 2 (by omega);have M:=bHC (wI 4) e 0 9;have O:=bNN (wI 4) e 0 0 sA (by decide);rw [Q] at O;obtain⟨m,-,-⟩:=bCF e 2;have f:0< (nK (wI 4) 2).1.fl.length:=by rw [f7];omega
 have F:=aXQ (nK (wI 4) 2).1 0 0 m.sm f (m.file 0 f).E (m.file 0 f).sup;have H:=aXQ (nK (wI 4) 2).1 0 2 m.sm f (m.file 0 f).E (m.file 0 f).sup;rw [f2] at F;rw [f3] at H;have ac:=bPJ wE bOA (.inl bO9) 3;have z:=bMJ (wI 4) e 0 4 true;have B:=bMJ (wI 4) e 0 5 true;rw [f6.1] at z;rw [f6.2] at B;have ab:=bM0 (wI 4) e;have aa:=bLZ (gY (wI 4) (wI 4).fr.length) (wI 4) e bOB;have T:=f5;obtain⟨R,J⟩:=f4;rw [R] at M;rw [f1] at N;clear Q
 generalize(findF ((nK (wI 4) 2).1.fl.getD 0 bC).E 0).1=p1 at *;generalize(findF ((nK (wI 4) 2).1.fl.getD 0 bC).E 2).1=p2 at *;clear f m;generalize(nK (wI 4) 2).1=D at *;generalize(aKL (wI 4) 0 9).1=X at *;generalize sX wE 3 (fL wE) (fL wE).length=lu at *;generalize(aDM (wI 4) 0 0 sA).2=we at *;generalize wE=E at *;generalize gY (wI 4) (wI 4).fr.length=G at *;generalize wI 4=C at *;have Y:(aB lu).length=1:=by rw [aA];exact T
 have hX:(aY X.fr).length=8:=by rw [show(aY X.fr).length=X.fr.length by simp [aY]];exact J
 refine Wy ?_;exact Lz
end Go.Proofs.YtmhapcbjjpadnaaGreat
