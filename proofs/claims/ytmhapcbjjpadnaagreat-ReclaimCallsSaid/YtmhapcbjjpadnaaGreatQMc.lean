/- Caches. -/
import Derived.Test.YtmhapcbjjpadnaaGreatQSc
import Derived.Test.YtmhapcbjjpadnaaGreatQGc
import Derived.Test.YtmhapcbjjpadnaaGreatQHc
import Derived.Test.YtmhapcbjjpadnaaGreatQIc
import Derived.Test.YtmhapcbjjpadnaaGreatGOc
import Derived.Test.YtmhapcbjjpadnaaGreatQCc
import Derived.Test.YtmhapcbjjpadnaaGreatHBc
set_option linter.all false
set_option maxHeartbeats 16000000
set_option maxRecDepth 40000
open List renaming replicate→zA,map_replicate→zC
open Nat renaming le_of_ble_eq_true→zD,le_refl→zE
namespace Go.Proofs.YtmhapcbjjpadnaaGreat
open Go Go.Sk Go.RowKit
def f1C(z:List Zn)(g:List Gr):Dc:=⟨[⟨0,0,eE,0,0,0,0⟩],zA (szF z).toNat none,z,g,zA g.length l0,zA g.length 0,[]⟩
theorem bNQ {z:List Zn} {g:List Gr} (D:aV3 z)(hg:mY g=true):Ok (f1C z g):=by
 have h:=aSF D hg
 have m:∀f,f<1->(f1C z g).fl.getD f aZ=(c0 z g).fl.getD f aZ:=λf m=>by
  obtain rfl:f=0:=by omega
  rfl
 have j:∀n,(f1C z g).fr.getD n none=none:=λn=>by show(zA _ none).getD n none=none;rw [List.getD_eq_getElem?_getD,List.getElem?_replicate];split <;> rfl
 refine⟨by show 1<=3;omega,h.nr,h.ng,h.nl,h.nk,λf e=>by rw [m f e];exact h.file f (by show f<3;have :f<1:=e;omega),λn u E C=>(by rw [j] at C;cases C),λf p e B=>?_,h.zone,h.free,h.gr,h.ls,h.mem,h.ck,h.pt⟩
 rw [m f e] at B;obtain⟨n,u,k1,k2,k3,-⟩:=h.ent f p (by show f<3;have :f<1:=e;omega) B;have k3:(f1C z g).fr.getD n none=some u:=k3;rw [j] at k3;cases k3
theorem bNP(z:List Zn)(g:List Gr):LeV (aP7 [(0,0)] z g) (.agg (f1C z g).c):=by
 unfold aP7 f1C Dc.c;refine .aggs (.cons (.refl _) (.cons ?_ (.cons (.refl _) (.cons (.refl _) (.cons ?_ (.cons ?_ (.cons .nils .nil)))))))
 ·show LeV (.lst 9 false (sX (zA (szF z).toNat fre))) (.lst 9 false (aO (zA (szF z).toNat none)));unfold sX aO;rw [zC,zC];exact .refl _
 ·show LeV (.lst 3 false (zA g.length [bL,bL,bL])) (.lst 3 false ((zA g.length l0).map Ls.c));rw [show zA g.length [bL,bL,bL]=(zA g.length l0).map λ_=> [bL,bL,bL] by rw [zC]];refine .rows (λh=>h) λx e=>?_;obtain rfl:=List.eq_of_mem_replicate e;exact .cons .nils (.cons .nils (.cons .nils .nil))
 ·show LeV (.lst 1 false (zA g.length [.int .i64 0])) (.lst 1 false (aB (zA g.length 0)));rw [aB,zC];exact .refl _
def w0:Dc:=f1C (newF [8]).1 [⟨8,0,0⟩]
theorem bRL:Ok w0:=bNQ (aHL (by decide +kernel)) (by decide +kernel)
theorem bL8:aM Tryz.prog 29 [] [.lst 2 false (rH [(0,0)]),.lst 1 false (aB [8]),.lst 3 false (aQ [⟨8,0,0⟩])] (.tup [.agg w0.c,.int .i64 0]) []:=by
 have k:=bHX [(0,0)] false [8] false [⟨8,0,0⟩] false (by decide) (by decide) (by decide);have e:aP8 [(0,0)] [8] [⟨8,0,0⟩]=(aP7 [(0,0)] (newF [8]).1 [⟨8,0,0⟩],0):=by unfold aP8;rw [show mY [⟨8,0,0⟩]=true from by decide +kernel,show(newF [8]).2=0 from by decide +kernel,show aDA [(0,0)]=true from by decide,show aNF [⟨8,0,0⟩]=true from by decide];rfl
 rw [e] at k;exact k.le (nD.refl _) (.tups (.cons (bNP _ _) (.cons (.refl _) .nil))) (pP.refl _)
def wI:Nat->Dc
 |0=>w0
 |k+1=>(jI (wI k) 0 (k:Int) 0 0 true).1
theorem aUT:∀k,Ok (wI k)
 |0=>bRL
 |k+1=>aBK (aUT k) _ _ _ _ _
def sA:ByteArray:=⟨#[97]⟩
def wE:Dc:=(aAC (wI 4) 0 0 sA).1
theorem bRN:Ok wE:=aUZ (aUT 4) _ _ _
theorem f1:(qC (wI 4) 2).2=2:=by decide +kernel
theorem f2:(findF ((qC (wI 4) 2).1.fl.getD 0 aZ).E 0).2=false:=by decide +kernel
theorem f3:(findF ((qC (wI 4) 2).1.fl.getD 0 aZ).E 2).2=true:=by decide +kernel
theorem f4:(aDW (wI 4) 0 9).2=4/\(aDW (wI 4) 0 9).1.fr.length=8:=by decide +kernel
theorem f5:(eK wE 3 (bM wE) (bM wE).length).length=1:=by decide +kernel
theorem f6:aRP (wI 4) 0 4 true=true/\aRP (wI 4) 0 5 true=false:=by decide +kernel
theorem f7:(qC (wI 4) 2).1.fl.length=1:=by decide +kernel
theorem bNR {P:Program} {f:FuncId} {S:aD} {m:Nat} {K:V->aD->Nat->Prop} {args e:List V} {A B X D:Prop} (z:List Nat)(j:V)(k:aM P f [] e j [])(E:args.map (pur S)=e)(F:args.all (puB S)=true)(G:args.all (aE3 z)=true)(C:K j (kD S z) (m+1)):nC A B ((true=true->rV P f args S m K)/\(true=false->X)) D:=by subst E;exact .frz ⟨λ_=>⟨z,j,k,aBG F G,C⟩,λh=>by cases h⟩
theorem aXN {c:Dc} (h:c.pt=[]):∀k,(gW c k).ls=c.ls/\(gW c k).pt=[]
 |0=>⟨rfl,h⟩
 |k+1=>by
  obtain⟨e,f⟩:=aXN h k;rw [gW,f];split
  ·rw [show yB [] ((k+1:Nat):Int) ([]:List Pt).length=false from rfl,zcf];exact⟨e,rfl⟩
  ·exact⟨e,rfl⟩
theorem bIF {c:Dc} (e:c.pt=[]):vC (gW c c.fr.length) c:=by obtain⟨f,h2⟩:=aXN e c.fr.length;rw [(aCO c c.fr.length).1];exact⟨rfl,rfl,aFU _,rfl,f,rfl,h2.trans e.symm⟩
theorem bRO:vC (gW (wI 4) (wI 4).fr.length) (wI 4):=bIF (List.isEmpty_iff.1 (show(wI 4).pt.isEmpty=true by decide +kernel))
theorem bRM:wE.gr.length=1:=by decide +kernel
theorem bEU {c:Dc} (h:Ok c)(n:Int):Ok (qC c n).1/\(qC c n).1.fr.length=c.fr.length/\(qC c n).1.gr.length=c.gr.length:=by
 unfold qC
 cases decide (n<1) with
 |true=>exact⟨h.x,rfl,rfl⟩
 |false=>
  rw [zcf];unfold bET;have a:=aKT h c.fr.length;have e:(gW c c.fr.length).gr=c.gr:=by rw [(aCO c c.fr.length).1]
  have f:(gW c c.fr.length).fr=c.fr:=by rw [(aCO c c.fr.length).1]
  have k:=aMA a (lA c.gr n.toNat 2).1 c.gr.length (by rw [e];exact zE _);have k2:=aMB k (n.toNat:Int) c.gr.length (by rw [e];exact zE _);exact⟨k2.ok,k2.fr.trans (by rw [f]),k2.gr.trans (by rw [e])⟩
noncomputable def R27:Rsv Tryz.prog Tryz.f27 [] 0:=⟨_,_,rfl,rfl⟩
theorem bT1:aM Tryz.prog 27 [] [] (.bool true) []:=by
 have j:=bL8;refine fnZ R27 Tryz.func27 ?_;refine Wy ?_;refine bNR [0,1,2] _ j rfl rfl rfl ?_;refine Wy ?_;refine Lp (λk:Nat=>k<=4) (λk=> [(3,.int .i64 (k:Int)),(1,.ptr 0 0 0)]) (λk=> [(0,.box (wI k).c)]) (λk=>4-k) 0 (Nat.zero_le _) ?_ ?_
 ·rw [show wI 0=w0 from rfl];clear j;generalize w0=C0;exact Vr [some 4]
 intro k hk;clear j
 by_cases b:k<4
 ·have ad:=bKI (wI k) (aUT k) 0 (k:Int) 0 0 true;have K:wI (k+1)=(jI (wI k) 0 (k:Int) 0 0 true).1:=rfl;generalize Z:wI (k+1)=W at *;generalize jI (wI k) 0 (k:Int) 0 0 true=r at *;generalize wI k=V at *;refine Wy ?_;refine Le (k+1) (hv:=?_);simp only [Z,K];exact Vr [some 0]
 obtain rfl:k=4:=by omega
 have e:=aUT 4;have Q:aAC (wI 4) 0 0 sA=(wE,(aAC (wI 4) 0 0 sA).2):=rfl;have N:=bP9 (wI 4) e 2 (by omega);have M:=aZV (wI 4) e 0 9;have O:=bHS (wI 4) e 0 0 sA (by decide);rw [Q] at O;obtain⟨m,-,-⟩:=bEU e 2;have f:0< (qC (wI 4) 2).1.fl.length:=by rw [f7];omega
 have F:=bAD (qC (wI 4) 2).1 0 0 m.sm f (m.file 0 f).E (m.file 0 f).sup;have H:=bAD (qC (wI 4) 2).1 0 2 m.sm f (m.file 0 f).E (m.file 0 f).sup;rw [f2] at F;rw [f3] at H;have ac:=bPC wE bRN (.inl bRM) 3;have z:=bKC (wI 4) e 0 4 true;have B:=bKC (wI 4) e 0 5 true;rw [f6.1] at z;rw [f6.2] at B;have ab:=bK1 (wI 4) e;have aa:=aOS (gW (wI 4) (wI 4).fr.length) (wI 4) e bRO;have T:=f5;obtain⟨R,J⟩:=f4;rw [R] at M;rw [f1] at N;clear Q
 generalize(findF ((qC (wI 4) 2).1.fl.getD 0 aZ).E 0).1=p1 at *;generalize(findF ((qC (wI 4) 2).1.fl.getD 0 aZ).E 2).1=p2 at *;clear f m;generalize(qC (wI 4) 2).1=D at *;generalize(aDW (wI 4) 0 9).1=X at *;generalize eK wE 3 (bM wE) (bM wE).length=lu at *;generalize(aAC (wI 4) 0 0 sA).2=we at *;generalize wE=E at *;generalize gW (wI 4) (wI 4).fr.length=G at *;generalize wI 4=C at *;have Y:(aB lu).length=1:=by rw [aA];exact T
 have hX:(aO X.fr).length=8:=by rw [show(aO X.fr).length=X.fr.length by simp [aO]];exact J
 refine Wy ?_;exact Lz
theorem bFB(f:Int)(p:Pt):(eP f p).frame=p.frame:=by unfold eP;cases(p.frame==f)<;> rfl
def aXK(c:Dc)(l:List Pt):Prop:=∀x∈l,∃m u,m<c.fr.length/\x.frame=((m+1:Nat):Int)/\c.fr.getD m none=some u
theorem aXK.yng {c:Dc} {l:List Pt} (h:aXK c l)(f:Int):aXK c (l.map (eP f)):=λx e=>by obtain⟨y,j,rfl⟩:=List.mem_map.1 e;rw [bFB];exact h y j
theorem bLH {c:Dc} {l:List Pt} (h:aXK c l) {k:Nat} (f:c.fr.getD k none=none):l.map (eP ((k+1:Nat):Int))=l:=by
 conv=>rhs;rw [<-List.map_id l]
 apply List.map_congr_left;intro x j;obtain⟨m,u,a,b,d⟩:=h x j;have e:m≠k:=λe=>by rw [e,f] at d;cases d
 unfold eP;rw [zbn.2 (show x.frame≠((k+1:Nat):Int) by rw [b];omega)];rfl
theorem aKV {a c:Dc} (e:vC a c)(f:iL c):∀k,vC (gW a k) (dG c k)/\aXK c (dG c k).pt
 |0=>⟨(vC.x a).trans e,f.pgs⟩
 |k+1=>by
  obtain⟨s,u⟩:=aKV e f k;have e1:(gW a k).pt=(dG c k).pt:=s.pt;rw [gW,dG,e.fr]
  cases j:c.fr.getD k none with
  |none=> dsimp only;rw [e1,bLH u j];exact⟨⟨s.fl,s.fr,s.zo,s.gr,s.ls,s.ck,rfl⟩,u⟩
  |some w=>
   dsimp only;rw [e1]
   cases m:yB (dG c k).pt ((k+1:Nat):Int) (dG c k).pt.length with
   |false=> rw [zcf,zcf,bLG m];exact⟨⟨s.fl,s.fr,s.zo,s.gr,s.ls,s.ck,rfl⟩,u⟩
   |true=> rw [zct,zct];refine⟨⟨s.fl,s.fr,s.zo,s.gr,?_,s.ck,rfl⟩,u.yng _⟩;show(gW a k).ls.set w.ten _=(dG c k).ls.set w.ten _;have :((gW a k).pts ((dG c k).pt.map (eP ((k+1:Nat):Int)))).ls=(dG c k).ls:=s.ls;rw [this,s.ls]
theorem aUG {a c:Dc} (s:vC a c)(h:Ok c)(D:List Int):∀t,t<=c.gr.length->aCM (uU a D t) (tF c D t)
 |0,_=>⟨s,rfl⟩
 |t+1,f=>by have e:=aUG s h D t (by omega);have o:=aCD h D t (by omega);have k:=aII e.sim o.ok (t:=t) (by rw [o.sh.gr];omega) (D.getD t 0);rw [uU,tF];exact⟨k.sim,by dsimp only;rw [e.eq,k.eq]⟩
theorem aUH {c:Dc} {s r:Dc×Int} {b:Int} (k:aCM s r)(h:TrI c r b)(n:Int):∀t,t<=c.gr.length->aCM (lP s n t) (gJ r n t)
 |0,_=>k
 |t+1,m=>by
  have f:=aUH k h n t (by omega);have o:=aG1 h n t (by omega);rw [lP,gJ]
  by_cases e:(gJ r n t).2<n
  ·rw [zdt e,zct];have k:=aII f.sim o.ok (t:=t) (by rw [o.sh.gr];omega) (n- (lP s n t).2);rw [f.eq] at k;rw [f.eq];exact⟨k.sim,by dsimp only;rw [k.eq]⟩
  ·rw [zdf e,zcf];have j:jE (lP s n t).1 t (n- (lP s n t).2)=((lP s n t).1.x,0):=by unfold jE;rw [zdt (show n- (lP s n t).2<1 by rw [f.eq];omega),zct]
   rw [j];exact⟨(vC.x _).trans f.sim,by dsimp only;rw [f.eq];omega⟩
theorem bEV {c:Dc} (h:Ok c)(f:iL c)(n:Nat):aCM (bET c n) (aPP c n):=by have a:=(aKV (vC.refl c) f c.fr.length).1;have ok:=vD h c.fr.length;have e:=aKU (c:=c) c.fr.length;have k:=aUG a ok (lA c.gr n 2).1 c.gr.length (by rw [e.gr];exact zE _);have o:=aCD ok (lA c.gr n 2).1 c.gr.length (by rw [e.gr];exact zE _);exact aUH k o (n:Int) c.gr.length (by rw [e.gr];exact zE _)
def aIJ(c:Dc)(t n:Int):Dc×Int:=bif decide (0<=t/\t< (c.gr.length:Int)) then jU c t.toNat n else(c,0)
def aMC(c:Dc)(n:Int):Dc×Int:=bif decide (n<1) then(c,0) else aPP c n.toNat
theorem bGX(c:Dc)(h:Ok c)(t n:Int)(j:n<=4611686018427387904/\-1000<=n):aM Tryz.prog 17 [] [.agg c.c,.int .i64 t,.int .i64 n] (.tup [.agg (aIJ c t n).1.c,.int .i64 (aIJ c t n).2]) []:=by
 unfold aIJ;have f:(aQ c.gr).length=c.gr.length:=by simp [aQ]
 by_cases e:0<=t/\t< (c.gr.length:Int)
 ·rw [zdt e,zct];have k:=bJR c h t.toNat (by omega) n j
  rwa [show((t.toNat:Nat):Int)=t by omega] at k
 ·rw [zdf e,zcf]
  by_cases a:t<0
  ·refine fnZ R17 Tryz.func17 ?_;exact kK
  ·have m:(c.gr.length:Int)<=t:=by omega
   refine fnZ R17 Tryz.func17 ?_;exact kK
theorem bPB(c:Dc)(h:Ok c)(n:Int)(e:n<=64):aM Tryz.prog 22 [] [.agg c.c,.int .i64 n] (.tup [.agg (aMC c n).1.c,.int .i64 (aMC c n).2]) []:=by
 unfold aMC
 by_cases a:n<1
 ·rw [zdt a,zct];refine fnZ R22 Tryz.func22 ?_;exact kK
 ·rw [zdf a,zcf];have k:=bSY c h n.toNat (by omega)
  rwa [show((n.toNat:Nat):Int)=n by omega] at k
theorem aPU {c:Dc} (h:Ok c)(t n:Int):aCM (aDW c t n) (aIJ c t n):=by
 unfold aDW aIJ
 by_cases e:0<=t/\t< (c.gr.length:Int)
 ·rw [zdt e,zct,zct];exact aII (vC.refl c) h (by omega) n
 ·rw [zdf e,zcf,zcf];exact⟨vC.x c,rfl⟩
theorem bB9 {c:Dc} (h:Ok c)(e:iL c)(n:Int):aCM (qC c n) (aMC c n):=by
 unfold qC aMC
 cases decide (n<1) with
 |true=>exact⟨vC.x c,rfl⟩
 |false=>exact bEV h e n.toNat
theorem aUP {c:Dc} (h:Ok c)(t n:Int):Ok (aIJ c t n).1:=by
 unfold aIJ
 by_cases e:0<=t/\t< (c.gr.length:Int)
 ·rw [zdt e,zct];exact(aCF h (t:=t.toNat) (by omega) n).ok
 ·rw [zdf e,zcf];exact h
theorem bEX {c:Dc} (h:Ok c)(n:Int):Ok (aMC c n).1:=by
 unfold aMC
 cases decide (n<1) with
 |true=>exact h
 |false=>exact(bEW h n.toNat).1
theorem bSW(L:List Int)(m:(L.length:Int)<2^62):∃(c:Dc) (J:Nat),Drw c/\J<=L.length/\aM Tryz.prog 13 [] [.lst 1 false (aB L)] (.tup [.agg c.c,.ptr 0 0 0]) [oT L J]:=by
 obtain⟨c,J,z,j,f⟩:=bTG L m (J:=0) (Nat.zero_le _);refine⟨c,J,z,j,?_⟩;have e:oT L 0=.box [.lst 1 false (aB L),.int .i64 0]:=rfl;rw [e] at f;refine aE (ob0:= []) [] Tryz.func13 rfl rfl rfl rfl ?_;refine Wy ?_;refine pR.mk ?_
 (repeat((conv=>whnf);first |refine And.intro (λ_=>⟨rfl,zD rfl⟩) ?_ |refine And.intro (λ_=>zD rfl) ?_ |refine And.intro (zD rfl) ?_))
 conv=>whnf
 refine⟨[some 1],?_,rfl,?_,rfl,?_⟩
 all_goals exact Cz
end Go.Proofs.YtmhapcbjjpadnaaGreat
