/- Caches. -/
import Derived.Test.YtmhapcbjjpadnaaGreatQPo
set_option linter.all false
set_option maxHeartbeats 32000000
set_option maxRecDepth 40000
open Nat renaming zero_le→zA
namespace Go.Proofs.YtmhapcbjjpadnaaGreat
open Go Go.Sk Go.RowKit
theorem aVN(L:List Int) {J:Nat} (m:(L.length:Int)<2^62)(j:J<=L.length)(n:Int)(f:0<n)(z:n<1000000000):
 ∃v e:Nat,(v:Int)<n/\e<=L.length/\aN Tryz.prog 15 [tpO L J] [.ptr 0 0 0,.int .i64 n] (.int .i64 (v:Int)) [tpO L e]:=by
 have a:=aX2 L J n f (by omega);refine⟨(nxV L J n).toNat,nxI L J,by omega,aX1 L J j,?_⟩;rw [show(((nxV L J n).toNat:Nat):Int)=nxV L J n by omega];exact bEC L J n m j f (by omega)
structure RdI(n:Nat)(R:List Int)(M:List (List Int×V)):Prop where
 chk:dM ⟨[],uV n,R⟩=true
 mp:∀i:Nat,eP M [(i:Int)] (.bool false)=.bool (decide (((i+1:Nat):Int)∈R))
theorem RdI.nil {n:Nat} (h:FaO n):RdI n [] []:=by refine⟨?_,λi=>rfl⟩;have k:=(bE5 n).ls 0 (by rw [h.ls];exact Nat.zero_lt_one);rw [h.ls] at k;exact k
theorem RdI.cons {n:Nat} (h:FaO n) {R:List Int} {M:List (List Int×V)} (k:RdI n R M) {i:Nat} (hi:i<n)(f:((i+1:Nat):Int)∉R):RdI n (aKJ R i) (gM M [(i:Int)] (.bool true)):=by
 refine⟨(aR7 h k.chk hi f).1,λj=>?_⟩;rw [uE,k.mp j]
 by_cases e:j=i
 ·subst e;rw [if_pos rfl,zdt (aQU.2 (.inl rfl))]
 ·rw [if_neg (by intro x;exact e (by have :=List.cons.inj x;omega))];have :((j+1:Nat):Int)∈aKJ R i↔((j+1:Nat):Int)∈R:=by rw [aQU];exact⟨λx=>x.elim (λy=>by omega) id,.inr⟩
  rw [decide_eq_decide.2 this]
noncomputable def R5:Rsv Tryz.prog Tryz.f5 [] 2:=⟨_,_,rfl,rfl⟩
theorem ok5(L:List Int)(hL:(L.length:Int)<2^62)(n:Int):aN Tryz.prog 5 [] [.lst 1 false (aB L),.int .i64 n] (.bool true) []:=by
 have ac:=bH5;have av:=bPK;have ap:=bLN n 12 (by decide);obtain⟨q1,q2⟩:=aQA n 12 (by decide) (by decide);generalize aLH n 12=q at *;obtain⟨q,rfl⟩:∃j:Nat,q=(j:Int):=⟨q.toNat,by omega⟩;obtain⟨w,J1,hw,aj,d1⟩:=aVN L hL (zA L.length) 10 (by decide) (by decide);obtain⟨v,J2,N,ak,d2⟩:=aVN L hL aj 6 (by decide) (by decide);have K:=FaO.mk' (n:=w+1) (by omega) (by omega);refine fnZ R5 Tryz.func5 ?_;refine Wy ?_;refine bDX [1,2,3] _ ac rfl rfl rfl ?_;refine Wy ?_
 refine Lp (λk:Nat=>k<=w+1) (λk=> [(9,.int .i64 (k:Int)),(6,.ptr 1 0 0)]) (λk=> [(0,tpO L J1),(1,.box (oI k).c)]) (λk=>w+1-k) 0 (zA _) ?_ ?_
 ·rw [show oI 0=o0 from rfl];clear ac K;generalize o0=C0;exact Vr [some 0,some 5]
 intro k hk;clear ac
 by_cases b:k<w+1
 ·have aw:=bMZ (oI k) (aMK k) ((k/8:Nat):Int) ((k%8:Nat):Int) 0 0 true;have e:oI (k+1)=(mU (oI k) ((k/8:Nat):Int) ((k%8:Nat):Int) 0 0 true).1:=rfl;generalize hn:oI (k+1)=W at *;generalize mU (oI k) ((k/8:Nat):Int) ((k%8:Nat):Int) 0 0 true=r at *;generalize oI k=V at *;refine Wy ?_;refine Le (k+1) (hv:=?_);simp only [hn,e];exact Vr [some 0,some 1]
 obtain rfl:k=w+1:=by omega
 have ai:=bN4 (oI (w+1)) (aMK _) 0 128;have Z:=bN4 (rW (oI (w+1)) 0 128).1 (aE9 (aMK _) _ _) 1 128;rw [show(rW (rW (oI (w+1)) 0 128).1 1 128).1=oC (w+1) [] from bH6 K] at Z;generalize(rW (rW (oI (w+1)) 0 128).1 1 128).2=z1 at *;generalize(rW (oI (w+1)) 0 128).2=z2 at *;generalize(rW (oI (w+1)) 0 128).1=z3 at *;generalize oI (w+1)=z4 at *;refine Wy ?_;clear ai Z d1 d2 hk
 refine Lp (α:=Nat×Nat×List Int×List (List Int×V)) (λx=>x.1<=6/\x.2.1<=L.length/\RdI (w+1) x.2.2.1 x.2.2.2) (λx=> [(11,.int .i64 (x.1:Int)),(10,.mp 2),(6,.ptr 1 0 0)]) (λx=> [(0,tpO L x.2.1),(1,.box (oC (w+1) x.2.2.1).c),(2,.mp (1,x.2.2.2))]) (λx=>x.1) (v,J2,[],[]) ⟨by omega,ak,RdI.nil K⟩ ?_ ?_
 ·exact Vr [some 0,some 1,some 2]
 rintro ⟨j,J,R,M⟩ ⟨i1,i2,Q⟩;dsimp only at i1 i2 Q⊢
 cases j with
 |succ j=>
  obtain⟨i,J',hi,ag,d3⟩:=aVN L hL i2 ((1+w:Nat):Int) (by omega) (by omega);have hi:i<w+1:=by omega
  have hM:=Q.mp i
  by_cases hu:((i+1:Nat):Int)∈R
  ·rw [zdt hu] at hM;obtain⟨C,hC⟩:∃C,oC (w+1) R=C:=⟨_,rfl⟩;rw [hC];refine Wy ?_;rw [hM];refine Wy ?_;refine Le (j,J',R,M) (hI:=⟨by omega,ag,Q⟩) (hv:=?_);dsimp only;rw [hC];exact Vr [some 0,some 1,some 2]
  ·rw [zdf hu] at hM;obtain⟨-,st,ao⟩:=aR7 K Q.chk hi hu;have ar:=K.fl;have ad:=bPM (oC (w+1) R) (aX3 K Q.chk) (i/8) (i%8*16) 1 (by show i/8< (oB (w+1)).fl.length;omega) (by omega);rw [ao,show((1:Nat):Int)=1 from rfl] at ad;obtain⟨C,hC⟩:∃C,oC (w+1) R=C:=⟨_,rfl⟩;obtain⟨C2,af⟩:∃C,oC (w+1) (aKJ R i)=C:=⟨_,rfl⟩;rw [hC] at ad⊢;rw [af] at ad;refine Wy ?_;rw [hM];refine Wy ?_;refine Le (j,J',aKJ R i,gM M [(i:Int)] (.bool true)) (hI:=⟨by omega,ag,Q.cons K hi hu⟩) (hv:=?_)
   dsimp only;rw [af];exact Vr [some 0,some 1,some 2]
 |zero=>
  have z:=aX3 K Q.chk;have ab:=bM8 (oC (w+1) R) z ((1+q:Nat):Int) (by omega);obtain⟨e1,Y⟩:=bCG (m:=1+q) (U:=λi=>decide (((i+1:Nat):Int)∈R)) K (by omega) (by omega) (by omega) (by omega) Q.chk (λi _=>by rw [decide_eq_true_iff]);rw [e1] at ab;obtain⟨U,aa⟩:∃U:Nat->Bool,(λi=>decide (((i+1:Nat):Int)∈R))=U:=⟨_,rfl⟩;have hM:∀i:Nat,eP M [(i:Int)] (.bool false)=.bool (U i):=λi=>by rw [<-aa];exact Q.mp i
  rw [aa] at Y;clear aa;generalize(nK (oC (w+1) R) ((1+q:Nat):Int)).1=F at *;generalize oC (w+1) R=C at *;clear z e1;have am:min (1+q) (w+1)=min (1+q) (1+w):=by omega
  rw [am] at ab Y;refine Wy ?_;clear ab ap;generalize hD:min (1+q) (1+w)=D at *;refine Lp (λp:Nat=>p<=2) (λp=> [(17,.int .i64 (p:Int)),(16,.int .i64 (lfO F U (w+1) D p 0)),(14,.ptr 3 0 0)]) (λp=> [(0,tpO L J),(1,.box C.c),(2,.mp (1,M)),(3,.box F.c)]) (λp=>2-p) 0 (zA _) ?_ ?_
  ·have e0:lfO F U (w+1) D 0 0=(D:Int):=by show(D:Int)- (0:Nat)=_;omega
   rw [e0];exact Vr [some 0,some 1,some 2,some 3]
  intro p hp
  by_cases b:p<2
  ·have ah:=aWO K (by omega) Y b;refine Wy ?_;refine Lp (λi:Nat=>i<=w+1) (λi=> [(18,.int .i64 (i:Int)),(16,.int .i64 (lfO F U (w+1) D p i))]) (λi=> []) (λi=>w+1-i) 0 (zA _) ?_ ?_
   ·exact Vr [some 0,some 1,some 2,some 3]
   intro i hi;have aq:=bGS (F:=F) (U:=U) (p:=p) (d:=D) (show w+1<=10 by omega) (by omega) hi
   by_cases b2:i<w+1
   ·obtain⟨t1,t2⟩:=bGR Y b b2;have f:=bG2 K (by omega) Y b2;have B:=hM i;have O:i/8<F.fl.length:=by rw [Y.fl];omega
    have z:=Y.ok;clear Y hM ah;generalize lfO F U (w+1) D p i=H at *;generalize E:lfO F U (w+1) D p (i+1)=G at *;have au:IntKind.i64.wrap (H-1)=H-1:=aO (by omega) (by omega);generalize U i=ui at *;obtain rfl |rfl:p=0\/p=1:=by omega
    ·cases ui with
     |true=> have e:G=H:=t1 rfl;refine Wy ?_;rw [B];refine Wy ?_;refine Le (i+1) (hv:=?_);simp only [E,e];exact Vr [some 0,some 1,some 2,some 3]
     |false=>
      obtain⟨t3,T⟩:=t2 rfl;have t3:=t3 rfl
      cases hf:F.fr.getD i none with
      |none=>
       rw [hf] at f t3 T;have ae:=z.f33n O f
       have hl:0<H:=by
        by_cases hl:0<H
        ·exact hl
        ·rw [zdf hl] at t3;exact absurd t3 (by decide)
       have e:G=H-1:=T;refine Wy ?_;rw [B];refine Wy ?_;refine Le (i+1) (hv:=?_);simp only [E,e];exact Vr [some 0,some 1,some 2,some 3]
      |some u=>
       rw [hf] at f t3 T;have ae:=z.f33s O f;have hl:¬0<H:=λhl=>by rw [zdt hl] at t3;simp at t3
       have e:G=H:=T;refine Wy ?_;rw [B];refine Wy ?_;refine Le (i+1) (hv:=?_);simp only [E,e];exact Vr [some 0,some 1,some 2,some 3]
    ·cases ui with
     |false=> have e:G=H:=t1 rfl;refine Wy ?_;rw [B];refine Wy ?_;refine Le (i+1) (hv:=?_);simp only [E,e];exact Vr [some 0,some 1,some 2,some 3]
     |true=>
      obtain⟨-,T⟩:=t2 rfl
      cases hf:F.fr.getD i none with
      |none=> rw [hf] at f T;have ae:=z.f33n O f;have e:G=H-1:=T;refine Wy ?_;rw [B];refine Wy ?_;refine Le (i+1) (hv:=?_);simp only [E,e];exact Vr [some 0,some 1,some 2,some 3]
      |some u=> rw [hf] at f T;have ae:=z.f33s O f;have e:G=H:=T;refine Wy ?_;rw [B];refine Wy ?_;refine Le (i+1) (hv:=?_);simp only [E,e];exact Vr [some 0,some 1,some 2,some 3]
   ·obtain rfl:i=w+1:=by omega
    rw [ah];generalize al:lfO F U (w+1) D (p+1) 0=H at *;refine Wy ?_;refine Le (p+1) (hv:=?_);rw [al];exact Vr [some 0,some 1,some 2,some 3]
  ·obtain rfl:p=2:=by omega
   have e0:lfO F U (w+1) D 2 0=0:=rfl;rw [e0];refine Wy ?_;exact Lz
end Go.Proofs.YtmhapcbjjpadnaaGreat
