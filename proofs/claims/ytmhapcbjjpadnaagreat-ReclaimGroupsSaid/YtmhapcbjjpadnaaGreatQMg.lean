/- Caches. -/
import Derived.Test.YtmhapcbjjpadnaaGreatQSg
import Derived.Test.YtmhapcbjjpadnaaGreatQGg
import Derived.Test.YtmhapcbjjpadnaaGreatQHg
import Derived.Test.YtmhapcbjjpadnaaGreatQIg
import Derived.Test.YtmhapcbjjpadnaaGreatGOg
import Derived.Test.YtmhapcbjjpadnaaGreatQCg
import Derived.Test.YtmhapcbjjpadnaaGreatHBg
set_option linter.all false
set_option maxHeartbeats 16000000
set_option maxRecDepth 40000
open List renaming replicate→zA,map_replicate→zC
open Nat renaming le_of_ble_eq_true→zD
namespace Go.Proofs.YtmhapcbjjpadnaaGreat
open Go Go.Sk Go.RowKit
def f1C(z:List Zn)(g:List Gr):Dc:=⟨[⟨0,0,eE,0,0,0,0⟩],zA (szF z).toNat none,z,g,zA g.length l0,zA g.length 0,[]⟩
theorem bME {z:List Zn} {g:List Gr} (D:aU5 z)(hg:mV g=true):Ok (f1C z g):=by
 have h:=aRL D hg
 have m:∀f,f<1->(f1C z g).fl.getD f aX=(c0 z g).fl.getD f aX:=λf m=>by
  obtain rfl:f=0:=by omega
  rfl
 have j:∀n,(f1C z g).fr.getD n none=none:=λn=>by show(zA _ none).getD n none=none;rw [List.getD_eq_getElem?_getD,List.getElem?_replicate];split <;> rfl
 refine⟨by show 1<=3;omega,h.nr,h.ng,h.nl,h.nk,λf e=>by rw [m f e];exact h.file f (by show f<3;have :f<1:=e;omega),λn u E C=>(by rw [j] at C;cases C),λf p e B=>?_,h.zone,h.free,h.gr,h.ls,h.mem,h.ck,h.pt⟩
 rw [m f e] at B;obtain⟨n,u,k1,k2,k3,-⟩:=h.ent f p (by show f<3;have :f<1:=e;omega) B;have k3:(f1C z g).fr.getD n none=some u:=k3;rw [j] at k3;cases k3
theorem bMD(z:List Zn)(g:List Gr):vY (aOD [(0,0)] z g) (.agg (f1C z g).c):=by
 unfold aOD f1C Dc.c;refine .aggs (.cons (.refl _) (.cons ?_ (.cons (.refl _) (.cons (.refl _) (.cons ?_ (.cons ?_ (.cons .nils .nil)))))))
 ·show vY (.lst 9 false (sR (zA (szF z).toNat fre))) (.lst 9 false (aQ (zA (szF z).toNat none)));unfold sR aQ;rw [zC,zC];exact .refl _
 ·show vY (.lst 3 false (zA g.length [bJ,bJ,bJ])) (.lst 3 false ((zA g.length l0).map Ls.c));rw [show zA g.length [bJ,bJ,bJ]=(zA g.length l0).map λ_=> [bJ,bJ,bJ] by rw [zC]];refine .rows (λh=>h) λx e=>?_;obtain rfl:=List.eq_of_mem_replicate e;exact .cons .nils (.cons .nils (.cons .nils .nil))
 ·show vY (.lst 1 false (zA g.length [.int .i64 0])) (.lst 1 false (aB (zA g.length 0)));rw [aB,zC];exact .refl _
def w0:Dc:=f1C (newF [8]).1 [⟨8,0,0⟩]
theorem bQA:Ok w0:=bME (aGX (by decide +kernel)) (by decide +kernel)
theorem bKF:aM Tryz.prog 29 [] [.lst 2 false (qX [(0,0)]),.lst 1 false (aB [8]),.lst 3 false (aR [⟨8,0,0⟩])] (.tup [.agg w0.c,.int .i64 0]) []:=by
 have k:=bHA [(0,0)] false [8] false [⟨8,0,0⟩] false (by decide) (by decide) (by decide);have e:aOE [(0,0)] [8] [⟨8,0,0⟩]=(aOD [(0,0)] (newF [8]).1 [⟨8,0,0⟩],0):=by unfold aOE;rw [show mV [⟨8,0,0⟩]=true from by decide +kernel,show(newF [8]).2=0 from by decide +kernel,show aCN [(0,0)]=true from by decide,show aMM [⟨8,0,0⟩]=true from by decide];rfl
 rw [e] at k;exact k.le (mQ.refl _) (.tups (.cons (bMD _ _) (.cons (.refl _) .nil))) (pE.refl _)
def wI:Nat->Dc
 |0=>w0
 |k+1=>(iZ (wI k) 0 (k:Int) 0 0 true).1
theorem aTU:∀k,Ok (wI k)
 |0=>bQA
 |k+1=>aB1 (aTU k) _ _ _ _ _
def sA:ByteArray:=⟨#[97]⟩
def wE:Dc:=(vU (wI 4) 0 0 sA).1
theorem bQC:Ok wE:=aU0 (aTU 4) _ _ _
theorem f1:(oI (wI 4) 2).2=2:=by decide +kernel
theorem f2:(findF ((oI (wI 4) 2).1.fl.getD 0 aX).E 0).2=false:=by decide +kernel
theorem f3:(findF ((oI (wI 4) 2).1.fl.getD 0 aX).E 2).2=true:=by decide +kernel
theorem f4:(aDA (wI 4) 0 9).2=4/\(aDA (wI 4) 0 9).1.fr.length=8:=by decide +kernel
theorem f5:(tX wE 3 (fQ wE) (fQ wE).length).length=1:=by decide +kernel
theorem f6:bAG (wI 4) 0 4 true=true/\bAG (wI 4) 0 5 true=false:=by decide +kernel
theorem f7:(oI (wI 4) 2).1.fl.length=1:=by decide +kernel
theorem bMH {P:Program} {f:FuncId} {S:aD} {m:Nat} {K:V->aD->Nat->Prop} {args e:List V} {A B X D:Prop} (z:List Nat)(j:V)(k:aM P f [] e j [])(E:args.map (pur S)=e)(F:args.all (puB S)=true)(G:args.all (aDG z)=true)(C:K j (jQ S z) (m+1)):mP A B ((true=true->rN P f args S m K)/\(true=false->X)) D:=by subst E;exact .frz ⟨λ_=>⟨z,j,k,aAX F G,C⟩,λh=>by cases h⟩
theorem aWP {c:Dc} (h:c.pt=[]):∀k,(gJ c k).ls=c.ls/\(gJ c k).pt=[]
 |0=>⟨rfl,h⟩
 |k+1=>by
  obtain⟨e,f⟩:=aWP h k;rw [gJ,f];split
  ·rw [show yB [] ((k+1:Nat):Int) ([]:List Pt).length=false from rfl,zcf];exact⟨e,rfl⟩
  ·exact⟨e,rfl⟩
theorem bHQ {c:Dc} (e:c.pt=[]):Sim (gJ c c.fr.length) c:=by obtain⟨h1,h2⟩:=aWP e c.fr.length;rw [(vZ c c.fr.length).1];exact⟨rfl,rfl,aL4 _,rfl,h1,rfl,h2.trans e.symm⟩
theorem bQD:Sim (gJ (wI 4) (wI 4).fr.length) (wI 4):=bHQ (List.isEmpty_iff.1 (show(wI 4).pt.isEmpty=true by decide +kernel))
theorem bQB:wE.gr.length=1:=by decide +kernel
theorem aTK {c:Dc} (h:Ok c)(n:Int):Ok (oI c n).1/\(oI c n).1.fr.length=c.fr.length/\(oI c n).1.gr.length=c.gr.length:=by
 unfold oI
 cases decide (n<1) with
 |true=>exact⟨h.x,rfl,rfl⟩
 |false=>
  rw [zcf];unfold bAM;have a:=aFM h c.fr.length;have e:(gJ c c.fr.length).gr=c.gr:=by rw [(vZ c c.fr.length).1]
  have f:(gJ c c.fr.length).fr=c.fr:=by rw [(vZ c c.fr.length).1]
  have k:=aLO a (aA7 c.gr n.toNat 2).1 c.gr.length (by rw [e];exact Nat.le_refl _);have k2:=aLP k (n.toNat:Int) c.gr.length (by rw [e];exact Nat.le_refl _);exact⟨k2.ok,k2.fr.trans (by rw [f]),k2.gr.trans (by rw [e])⟩
noncomputable def R27:Rsv Tryz.prog Tryz.f27 [] 0:=⟨_,_,rfl,rfl⟩
theorem bRN:aM Tryz.prog 27 [] [] (.bool true) []:=by
 have j:=bKF;refine fnZ R27 Tryz.func27 ?_;refine Wy ?_;refine bMH [0,1,2] _ j rfl rfl rfl ?_;refine Wy ?_;refine Lp (λk:Nat=>k<=4) (λk=> [(3,.int .i64 (k:Int)),(1,.ptr 0 0 0)]) (λk=> [(0,.box (wI k).c)]) (λk=>4-k) 0 (Nat.zero_le _) ?_ ?_
 ·rw [show wI 0=w0 from rfl];clear j;generalize w0=C0;exact Vr [some 4]
 intro k hk;clear j
 by_cases b:k<4
 ·have ad:=bJR (wI k) (aTU k) 0 (k:Int) 0 0 true;have K:wI (k+1)=(iZ (wI k) 0 (k:Int) 0 0 true).1:=rfl;generalize Z:wI (k+1)=W at *;generalize iZ (wI k) 0 (k:Int) 0 0 true=r at *;generalize wI k=V at *;refine Wy ?_;refine Le (k+1) (hv:=?_);simp only [Z,K];exact Vr [some 0]
 obtain rfl:k=4:=by omega
 have e:=aTU 4;have Q:vU (wI 4) 0 0 sA=(wE,(vU (wI 4) 0 0 sA).2):=rfl;have N:=bO0 (wI 4) e 2 (by omega);have M:=bDF (wI 4) e 0 9;have O:=bH5 (wI 4) e 0 0 sA (by decide);rw [Q] at O;obtain⟨m,-,-⟩:=aTK e 2;have f:0< (oI (wI 4) 2).1.fl.length:=by rw [f7];omega
 have F:=aZN (oI (wI 4) 2).1 0 0 m.sm f (m.file 0 f).E (m.file 0 f).sup;have H:=aZN (oI (wI 4) 2).1 0 2 m.sm f (m.file 0 f).E (m.file 0 f).sup;rw [f2] at F;rw [f3] at H;have ac:=bRM wE bQC (.inl bQB) 3;have z:=bOA (wI 4) e 0 4 true;have B:=bOA (wI 4) e 0 5 true;rw [f6.1] at z;rw [f6.2] at B;have ab:=bNT (wI 4) e;have aa:=bNS (gJ (wI 4) (wI 4).fr.length) (wI 4) e bQD;have T:=f5;obtain⟨R,J⟩:=f4;rw [R] at M;rw [f1] at N;clear Q
 generalize(findF ((oI (wI 4) 2).1.fl.getD 0 aX).E 0).1=p1 at *;generalize(findF ((oI (wI 4) 2).1.fl.getD 0 aX).E 2).1=p2 at *;clear f m;generalize(oI (wI 4) 2).1=D at *;generalize(aDA (wI 4) 0 9).1=X at *;generalize tX wE 3 (fQ wE) (fQ wE).length=lu at *;generalize(vU (wI 4) 0 0 sA).2=we at *;generalize wE=E at *;generalize gJ (wI 4) (wI 4).fr.length=G at *;generalize wI 4=C at *;have Y:(aB lu).length=1:=by rw [aA];exact T
 have hX:(aQ X.fr).length=8:=by rw [show(aQ X.fr).length=X.fr.length by simp [aQ]];exact J
 refine Wy ?_;exact Lz
theorem bRK(L:List Int)(m:(L.length:Int)<2^62):∃(c:Dc) (J:Nat),Drw c/\J<=L.length/\aM Tryz.prog 13 [] [.lst 1 false (aB L)] (.tup [.agg c.c,.ptr 0 0 0]) [oH L J]:=by
 obtain⟨c,J,hc,j,f⟩:=bS2 L m (J:=0) (Nat.zero_le _);refine⟨c,J,hc,j,?_⟩;have e:oH L 0=.box [.lst 1 false (aB L),.int .i64 0]:=rfl;rw [e] at f;refine aG (ob0:= []) [] Tryz.func13 rfl rfl rfl rfl ?_;refine Wy ?_;refine pG.mk ?_
 (repeat((conv=>whnf);first |refine And.intro (λ_=>⟨rfl,zD rfl⟩) ?_ |refine And.intro (λ_=>zD rfl) ?_ |refine And.intro (zD rfl) ?_))
 conv=>whnf
 refine⟨[some 1],?_,rfl,?_,rfl,?_⟩
 all_goals exact Cz
end Go.Proofs.YtmhapcbjjpadnaaGreat
