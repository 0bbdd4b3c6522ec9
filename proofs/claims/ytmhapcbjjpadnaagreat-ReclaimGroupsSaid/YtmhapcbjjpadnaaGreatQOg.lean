/- Caches. -/
import Derived.Test.YtmhapcbjjpadnaaGreatQNg
import Derived.Test.YtmhapcbjjpadnaaGreatQMg
set_option linter.all false
set_option maxHeartbeats 32000000
set_option maxRecDepth 40000
namespace Go.Proofs.YtmhapcbjjpadnaaGreat
open Go Go.Sk Go.RowKit
theorem aMS(d:Dc)(t:Nat):∀k,iE d t k<=k
 |0=>Nat.le_refl _
 |k+1=>by have :=aMS d t k;rw [iE];cases evT d t k <;> simp <;> omega
noncomputable def R4:Rsv Tryz.prog Tryz.f4 [] 2:=⟨_,_,rfl,rfl⟩
theorem ok4(L:List Int)(hL:(L.length:Int)<2^62)(n:Int):aM Tryz.prog 4 [] [.lst 1 false (aB L),.int .i64 n] (.bool true) []:=by
 obtain⟨c,J0,hd,ac,a7⟩:=bRK L hL;obtain⟨m,af,G,ai,ah⟩:=hd.ok;have hp:=hd.okP;clear hd;have ak:=m.nr;have a8:=bNF n 6 (by decide);obtain⟨q1,q2⟩:=aRR n 6 (by decide) (by decide);generalize aMT n 6=k at *;obtain⟨k,rfl⟩:∃j:Nat,k=(j:Int):=⟨k.toNat,by omega⟩;obtain⟨a,J1,ha,ad,d1⟩:=draw L hL ac 2 (by decide) (by decide);obtain⟨b,J2,hb,a4,d2⟩:=draw L hL ad 5 (by decide) (by decide);have a9:=bDF c m (a:Int) (1+(b:Int));have hE:=λr (hr:r≠a)=>bAW m (a:=a) (by omega) (1+(b:Int)) hr
 have ba:=bO0 c m (1+(k:Int)) (by omega);have hS:=λ(W:(c.gr.getD 0 g0).chg<=(c.gr.getD 0 g0).pro) (h1:((k+1:Nat):Int)<=(c.gr.getD 1 g0).chg- (c.gr.getD 1 g0).pro) (hc:k+1<=iE c 1 c.fr.length)=>bAN m hp G (k:=k+1) (by omega) W h1 hc
 rw [show((k+1:Nat):Int)=1+(k:Int) by omega] at hS;obtain⟨o1,o2,o3⟩:=aTK m (1+(k:Int));have bc:=bRN;have N:=aG7 m.gr (show 0<c.gr.length by omega);have O:=aG7 m.gr (show 1<c.gr.length by omega);have K:=(hE (1-a) (by omega)).2;have C:=(hE (1-a) (by omega)).1;clear hE;generalize(aDA c (a:Int) (1+(b:Int))).1=D at *;generalize(aDA c (a:Int) (1+(b:Int))).2=D2 at *;generalize(oI c (1+(k:Int))).1=E at *;generalize(oI c (1+(k:Int))).2=E2 at *
 have e:∀i,iE c 1 (i+1)=iE c 1 i+(bif (match c.fr.getD i none with |some u=>kK (some u)&&u.ten==1 |none=>false) then 1 else 0):=λi=>rfl
 have aa:=aMS c 1;have Z:iE c 1 0=0:=rfl;generalize iE c 1=B at *;obtain⟨x,y,ab⟩:=two G;obtain⟨M,F,H⟩:=two (K.trans G);obtain⟨T,ey,J⟩:=two (o3.trans G);clear o1 o2 o3 K hp m af ai ah;obtain⟨fl,f,zo,gr,ls,ck,pt⟩:=c;obtain⟨ap,aq,aw,ar,au,ao,av⟩:=D;obtain⟨ay,az,a3,a0,a1,ax,a2⟩:=E;dsimp only at ab H J C hS N O ak e;subst ab H J;have a5:IntKind.i64.wrap (1+(b:Int))=1+(b:Int):=aN;have a6:IntKind.i64.wrap (1+(k:Int))=1+(k:Int):=aN
 have ae:a=0\/a=1:=by omega
 have hS:x.chg<=x.pro->1+(k:Int)<=y.chg-y.pro->k+1<=B f.length->T=x:=hS;have N:(0<=x.chg/\x.chg<=64)/\0<=x.pro/\x.pro<=64:=N;have O:(0<=y.chg/\y.chg<=64)/\0<=y.pro/\y.pro<=64:=O;rcases ae with rfl |rfl
 ·have C:F=y:=C;subst C;have np:(F.chg != F.chg)=false:=by simp
  by_cases W:x.chg<=x.pro
  rotate_left
  ·refine fnZ R4 Tryz.func4 ?_;exact pV
  refine fnZ R4 Tryz.func4 ?_;refine Wy ?_;refine Lp (λi:Nat=>i<=f.length) (λi=> [(12,.int .i64 (i:Int)),(11,.int .i64 (B i:Int))]) (λi=> []) (λi=>f.length-i) 0 (Nat.zero_le _) ?_ ?_
  ·rw [Z];exact Vr [some 0,some 16,some 4240]
  intro i hi;have ag:=aa i
  by_cases b:i<f.length
  ·have hg:=cD f i b;have e:=e i
   cases hu:f.getD i none with
   |none=>
    rw [hu] at hg e;have hg:(aQ f).getD i []=fre.c:=hg;have e:B (i+1)=B i:=e;refine Wy ?_;refine Le (i+1) (hI:=?_) (hv:=?_) (hm:=?_)
    ·show i+1<=f.length;omega
    ·simp only [e];exact Vr [some 0,some 1,some 2]
    ·show f.length- (i+1)<f.length-i;omega
   |some u=>
    rw [hu] at hg e;have hg:(aQ f).getD i []=u.c:=hg;have e:B (i+1)=B i+(bif (bif dW u then(u.p.d:Int)==0 else false)&&u.ten==1 then 1 else 0):=e;have am:=aZK u;have aj:((u.file:Int) != -1)=true:=by rw [bne_iff_ne];omega
    have Q:((u.ten:Int)==1)=(u.ten==1):=by rw [Bool.eq_iff_iff,zbe,zbe];omega
    have Y:(bif (bif (bif true then((u.ten:Int)==1) else false) then dW u else false) then((u.p.d:Int)==0) else false)=((bif dW u then(u.p.d:Int)==0 else false)&&u.ten==1):=by rw [Q];cases(u.ten==1)<;> cases dW u <;> cases((u.p.d:Int)==0)<;> rfl
    cases z:((bif dW u then(u.p.d:Int)==0 else false)&&u.ten==1) with
    |false=>
     rw [z] at Y;rw [z,zcf] at e;have e:B (i+1)=B i:=e;refine Wy ?_;refine Le (i+1) (hI:=?_) (hv:=?_) (hm:=?_)
     ·show i+1<=f.length;omega
     ·simp only [e];exact Vr [some 0,some 1,some 2]
     ·show f.length- (i+1)<f.length-i;omega
    |true=>
     rw [z] at Y;rw [z,zct] at e;refine Wy ?_;refine Le (i+1) (hI:=?_) (hv:=?_) (hm:=?_)
     ·show i+1<=f.length;omega
     ·simp only [e];exact Vr [some 0,some 1,some 2]
     ·show f.length- (i+1)<f.length-i;omega
  obtain rfl:i=f.length:=by omega
  have al:IntKind.i64.wrap (F.chg-F.pro)=F.chg-F.pro:=aN
  by_cases h2:B f.length<k+1
  ·exact pV
  by_cases h3:F.chg-F.pro<1+(k:Int)
  ·exact pV
  have hx:=hS W (by omega) (by omega);have R:(T.chg==x.chg)=true:=by rw [hx];simp
  refine Wy ?_;generalize(T.chg==x.chg)=bq at *;subst R;exact Lz
 ·have C:M=x:=C;subst C;have np:(M.chg != M.chg)=false:=by simp
  by_cases W:M.chg<=M.pro
  rotate_left
  ·refine fnZ R4 Tryz.func4 ?_;exact pV
  refine fnZ R4 Tryz.func4 ?_;refine Wy ?_;refine Lp (λi:Nat=>i<=f.length) (λi=> [(12,.int .i64 (i:Int)),(11,.int .i64 (B i:Int))]) (λi=> []) (λi=>f.length-i) 0 (Nat.zero_le _) ?_ ?_
  ·rw [Z];exact Vr [some 0,some 16,some 4240]
  intro i hi;have ag:=aa i
  by_cases b:i<f.length
  ·have hg:=cD f i b;have e:=e i
   cases hu:f.getD i none with
   |none=>
    rw [hu] at hg e;have hg:(aQ f).getD i []=fre.c:=hg;have e:B (i+1)=B i:=e;refine Wy ?_;refine Le (i+1) (hI:=?_) (hv:=?_) (hm:=?_)
    ·show i+1<=f.length;omega
    ·simp only [e];exact Vr [some 0,some 1,some 2]
    ·show f.length- (i+1)<f.length-i;omega
   |some u=>
    rw [hu] at hg e;have hg:(aQ f).getD i []=u.c:=hg;have e:B (i+1)=B i+(bif (bif dW u then(u.p.d:Int)==0 else false)&&u.ten==1 then 1 else 0):=e;have am:=aZK u;have aj:((u.file:Int) != -1)=true:=by rw [bne_iff_ne];omega
    have Q:((u.ten:Int)==1)=(u.ten==1):=by rw [Bool.eq_iff_iff,zbe,zbe];omega
    have Y:(bif (bif (bif true then((u.ten:Int)==1) else false) then dW u else false) then((u.p.d:Int)==0) else false)=((bif dW u then(u.p.d:Int)==0 else false)&&u.ten==1):=by rw [Q];cases(u.ten==1)<;> cases dW u <;> cases((u.p.d:Int)==0)<;> rfl
    cases z:((bif dW u then(u.p.d:Int)==0 else false)&&u.ten==1) with
    |false=>
     rw [z] at Y;rw [z,zcf] at e;have e:B (i+1)=B i:=e;refine Wy ?_;refine Le (i+1) (hI:=?_) (hv:=?_) (hm:=?_)
     ·show i+1<=f.length;omega
     ·simp only [e];exact Vr [some 0,some 1,some 2]
     ·show f.length- (i+1)<f.length-i;omega
    |true=>
     rw [z] at Y;rw [z,zct] at e;refine Wy ?_;refine Le (i+1) (hI:=?_) (hv:=?_) (hm:=?_)
     ·show i+1<=f.length;omega
     ·simp only [e];exact Vr [some 0,some 1,some 2]
     ·show f.length- (i+1)<f.length-i;omega
  obtain rfl:i=f.length:=by omega
  have al:IntKind.i64.wrap (y.chg-y.pro)=y.chg-y.pro:=aN
  by_cases h2:B f.length<k+1
  ·exact pV
  by_cases h3:y.chg-y.pro<1+(k:Int)
  ·exact pV
  have hx:=hS W (by omega) (by omega);have R:(T.chg==M.chg)=true:=by rw [hx];simp
  refine Wy ?_;generalize(T.chg==M.chg)=bq at *;subst R;exact Lz
end Go.Proofs.YtmhapcbjjpadnaaGreat
