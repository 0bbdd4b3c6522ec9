/- Caches. -/
import Derived.Test.YtmhapcbjjpadnaaGreatHAg
import Derived.Test.YtmhapcbjjpadnaaGreatG7g
set_option linter.all false
set_option maxHeartbeats 8000000
set_option maxRecDepth 40000
open Int renaming toNat_natCast→zC
open List renaming getD_eq_getElem?_getD→zA,getElem?_take_of_lt→zD,length_set→zE
open Nat renaming le_refl→zF
namespace Go.Proofs.YtmhapcbjjpadnaaGreat
open Go Go.Sk Go.RowKit
theorem aYW(g:Gr)(h1:0<=g.chg/\g.chg<=64)(h2:0<=g.pro/\g.pro<=64):aM Tryz.prog 105 [] [.agg g.c] (.int .i64 (jR g)) []:=by
 unfold jR
 by_cases h:g.chg<=g.pro
 ·rw [zdt h];refine aG (ob0:= []) [] Tryz.func105 rfl rfl rfl rfl ?_;exact pV
 ·rw [zdf h];refine aG (ob0:= []) [] Tryz.func105 rfl rfl rfl rfl ?_;exact pV
theorem bNY(g:Gr):aM Tryz.prog 206 [] [.agg g.c] (.int .i64 g.chg) []:=by refine aG (ob0:= []) [] Tryz.func206 rfl rfl rfl rfl ?_;exact pV
def shV(s:List Int):List V:=s.map (V.int .i64)
def mS(l:List Gr)(ps:Nat)(s:List Int):List Int:=bif decide ((cP l s ps l.length).1<0) then s else s.set (cP l s ps l.length).1.toNat (s.getD (cP l s ps l.length).1.toNat 0+1)
theorem fou {s:List Int} (h:s.length=4):∃a b c d,s=[a,b,c,d]:=by
 match s,h with
 | [a,b,c,d],_=>exact⟨a,b,c,d,rfl⟩
structure ShI(n0 n:Nat)(s:List Int):Prop where
 len:s.length=4
 bd:∀i,0<=s.getD i 0/\s.getD i 0+(n:Int)<=(n0:Int)
theorem aR0 {l:List Gr} (h:mV l=true) {n0 n:Nat} {s:List Int} (f:ShI n0 n s)(ps:Nat):∀i,i<=l.length->0<=(cP l s ps i).2/\(cP l s ps i).2<=64
 |0,_=>⟨Int.le_refl _,by show(0:Int)<=64;omega⟩
 |i+1,hi=>by
  have j:=aR0 h f ps i (by omega);obtain⟨⟨m,z⟩,B,C⟩:=aG7 h (show i<l.length by omega);have D:=f.bd i;rw [cP]
  by_cases e:(cP l s ps i).2<iT l s ps i
  ·rw [zdt e,zct];dsimp only;refine⟨by omega,?_⟩;unfold iT jR
   cases(ps==0) with
   |true=>
    rw [zct]
    cases decide ((l.getD i g0).chg<=(l.getD i g0).pro) with
    |true=>rw [zct];omega
    |false=>rw [zcf];omega
   |false=>rw [zcf];omega
  ·rw [zdf e,zcf];exact j
noncomputable def bL7:Rsv Tryz.prog Tryz.f205 [] 3:=⟨_,_,rfl,rfl⟩
theorem bJE(l:List Gr)(hg:mV l=true)(n0 n:Nat)(hn:n0<=1000)(B C D E:Int)(O:ShI n0 n [B,C,D,E]):aM Tryz.prog 205 [] [.agg (shV [B,C,D,E]),.lst 3 false (aR l),.fn 105 []] (.agg (shV (mS l 0 [B,C,D,E]))) []:=by
 have ac:=(lV hg).2;have Y:(aR l).length=l.length:=by simp [aR]
 generalize J:mS l 0 [B,C,D,E]=q;unfold mS at J;refine fnZ bL7 Tryz.func205 ?_;refine Wy ?_;refine Lp (λi:Nat=>i<=l.length) (λi=> [(14,.int .i64 (i:Int)),(7,.int .i64 (cP l [B,C,D,E] 0 i).1),(8,.int .i64 (cP l [B,C,D,E] 0 i).2)]) (λi=> []) (λi=>l.length-i) 0 (Nat.zero_le _) ?_ ?_
 ·exact Vr [_,_]
 intro i hi;have Z:=uQ l [B,C,D,E] 0 i;have aa:=aR0 hg O 0 i hi;refine Wy ?_;refine iF (λb=>?_) (λb=>?_)
 ·have b:i<l.length:=by omega
  have M:=dV l i b;rw [zC] at M;obtain⟨T,W⟩:=aG7 hg b;have f:=O.bd i;have R:=aYW (l.getD i g0) T W;have z:cP l [B,C,D,E] 0 (i+1)=bif decide ((cP l [B,C,D,E] 0 i).2<iT l [B,C,D,E] 0 i) then((i:Int),iT l [B,C,D,E] 0 i) else cP l [B,C,D,E] 0 i:=rfl
  have m:iT l [B,C,D,E] 0 i=(jR (l.getD i g0))- [B,C,D,E].getD i 0:=rfl
  have ab:0<=(jR (l.getD i g0))/\(jR (l.getD i g0))<=64:=by
   (try unfold jR)
   by_cases e:(l.getD i g0).chg<=(l.getD i g0).pro
   ·(try rw [zdt e,zct]);omega
   ·(try rw [zdf e,zcf]);omega
  generalize hL:(jR (l.getD i g0))=K at *;generalize l.getD i g0=g at *;generalize cP l [B,C,D,E] 0 i=bq at *;obtain⟨H,G⟩:=bq;dsimp only at *;have N:i=0\/i=1\/i=2\/i=3:=by omega
  rcases N with rfl |rfl |rfl |rfl
  ·have m:iT l [B,C,D,E] 0 0=K-B:=m;have f:0<=B/\B+(n:Int)<=(n0:Int):=f
   by_cases F:G<K-B
   ·rw [m,zdt F,zct] at z;refine Wy ?_;refine And.intro ⟨_,Tryz.func105,rfl,rfl⟩ ?_;refine Wy ?_;refine Le (0+1) (hI:=?_) (hm:=?_) (hv:=?_)
    ·exact b
    ·simp only [z];exact Vr [_,_]
    ·show l.length- (0+1)<l.length-0;omega
   ·rw [m,zdf F,zcf] at z;refine Wy ?_;refine And.intro ⟨_,Tryz.func105,rfl,rfl⟩ ?_;refine Wy ?_;refine Le (0+1) (hI:=?_) (hm:=?_) (hv:=?_)
    ·exact b
    ·simp only [z];exact Vr [_,_]
    ·show l.length- (0+1)<l.length-0;omega
  ·have m:iT l [B,C,D,E] 0 1=K-C:=m;have f:0<=C/\C+(n:Int)<=(n0:Int):=f
   by_cases F:G<K-C
   ·rw [m,zdt F,zct] at z;refine Wy ?_;refine And.intro ⟨_,Tryz.func105,rfl,rfl⟩ ?_;refine Wy ?_;refine Le (1+1) (hI:=?_) (hm:=?_) (hv:=?_)
    ·exact b
    ·simp only [z];exact Vr [_,_]
    ·show l.length- (1+1)<l.length-1;omega
   ·rw [m,zdf F,zcf] at z;refine Wy ?_;refine And.intro ⟨_,Tryz.func105,rfl,rfl⟩ ?_;refine Wy ?_;refine Le (1+1) (hI:=?_) (hm:=?_) (hv:=?_)
    ·exact b
    ·simp only [z];exact Vr [_,_]
    ·show l.length- (1+1)<l.length-1;omega
  ·have m:iT l [B,C,D,E] 0 2=K-D:=m;have f:0<=D/\D+(n:Int)<=(n0:Int):=f
   by_cases F:G<K-D
   ·rw [m,zdt F,zct] at z;refine Wy ?_;refine And.intro ⟨_,Tryz.func105,rfl,rfl⟩ ?_;refine Wy ?_;refine Le (2+1) (hI:=?_) (hm:=?_) (hv:=?_)
    ·exact b
    ·simp only [z];exact Vr [_,_]
    ·show l.length- (2+1)<l.length-2;omega
   ·rw [m,zdf F,zcf] at z;refine Wy ?_;refine And.intro ⟨_,Tryz.func105,rfl,rfl⟩ ?_;refine Wy ?_;refine Le (2+1) (hI:=?_) (hm:=?_) (hv:=?_)
    ·exact b
    ·simp only [z];exact Vr [_,_]
    ·show l.length- (2+1)<l.length-2;omega
  ·have m:iT l [B,C,D,E] 0 3=K-E:=m;have f:0<=E/\E+(n:Int)<=(n0:Int):=f
   by_cases F:G<K-E
   ·rw [m,zdt F,zct] at z;refine Wy ?_;refine And.intro ⟨_,Tryz.func105,rfl,rfl⟩ ?_;refine Wy ?_;refine Le (3+1) (hI:=?_) (hm:=?_) (hv:=?_)
    ·exact b
    ·simp only [z];exact Vr [_,_]
    ·show l.length- (3+1)<l.length-3;omega
   ·rw [m,zdf F,zcf] at z;refine Wy ?_;refine And.intro ⟨_,Tryz.func105,rfl,rfl⟩ ?_;refine Wy ?_;refine Le (3+1) (hI:=?_) (hm:=?_) (hv:=?_)
    ·exact b
    ·simp only [z];exact Vr [_,_]
    ·show l.length- (3+1)<l.length-3;omega
 obtain rfl:i=l.length:=by omega
 generalize cP l [B,C,D,E] 0 l.length=bq at *;obtain⟨H,G⟩:=bq;dsimp only at *
 by_cases Q:H<0
 ·rw [zdt Q,zct] at J;subst J;exact pV
 ·rw [zdf Q,zcf] at J;obtain⟨j,rfl⟩:∃j:Nat,H=(j:Int):=⟨H.toNat,by omega⟩;rw [zC] at J;have f:=O.bd j;have hj:j=0\/j=1\/j=2\/j=3:=by omega
  rcases hj with rfl |rfl |rfl |rfl
  ·subst J;have f:0<=B/\B+(n:Int)<=(n0:Int):=f;exact pV
  ·subst J;have f:0<=C/\C+(n:Int)<=(n0:Int):=f;exact pV
  ·subst J;have f:0<=D/\D+(n:Int)<=(n0:Int):=f;exact pV
  ·subst J;have f:0<=E/\E+(n:Int)<=(n0:Int):=f;exact pV
theorem bJF(l:List Gr)(hg:mV l=true)(n0 n:Nat)(hn:n0<=1000)(B C D E:Int)(O:ShI n0 n [B,C,D,E]):aM Tryz.prog 205 [] [.agg (shV [B,C,D,E]),.lst 3 false (aR l),.fn 206 []] (.agg (shV (mS l 1 [B,C,D,E]))) []:=by
 have aa:=(lV hg).2;have T:(aR l).length=l.length:=by simp [aR]
 generalize J:mS l 1 [B,C,D,E]=q;unfold mS at J;refine fnZ bL7 Tryz.func205 ?_;refine Wy ?_;refine Lp (λi:Nat=>i<=l.length) (λi=> [(14,.int .i64 (i:Int)),(7,.int .i64 (cP l [B,C,D,E] 1 i).1),(8,.int .i64 (cP l [B,C,D,E] 1 i).2)]) (λi=> []) (λi=>l.length-i) 0 (Nat.zero_le _) ?_ ?_
 ·exact Vr [_,_]
 intro i hi;have W:=uQ l [B,C,D,E] 1 i;have Y:=aR0 hg O 1 i hi;refine Wy ?_;refine iF (λb=>?_) (λb=>?_)
 ·have b:i<l.length:=by omega
  have M:=dV l i b;rw [zC] at M;obtain⟨a1,a2⟩:=aG7 hg b;have f:=O.bd i;have R:=bNY (l.getD i g0);have z:cP l [B,C,D,E] 1 (i+1)=bif decide ((cP l [B,C,D,E] 1 i).2<iT l [B,C,D,E] 1 i) then((i:Int),iT l [B,C,D,E] 1 i) else cP l [B,C,D,E] 1 i:=rfl
  have m:iT l [B,C,D,E] 1 i=(l.getD i g0).chg- [B,C,D,E].getD i 0:=rfl
  have Z:0<=(l.getD i g0).chg/\(l.getD i g0).chg<=64:=by
   (try unfold jR)
   by_cases e:(l.getD i g0).chg<=(l.getD i g0).pro
   ·(try rw [zdt e,zct]);omega
   ·(try rw [zdf e,zcf]);omega
  generalize hL:(l.getD i g0).chg=K at *;generalize l.getD i g0=g at *;generalize cP l [B,C,D,E] 1 i=bq at *;obtain⟨H,G⟩:=bq;dsimp only at *;have N:i=0\/i=1\/i=2\/i=3:=by omega
  rcases N with rfl |rfl |rfl |rfl
  ·have m:iT l [B,C,D,E] 1 0=K-B:=m;have f:0<=B/\B+(n:Int)<=(n0:Int):=f
   by_cases F:G<K-B
   ·rw [m,zdt F,zct] at z;refine Wy ?_;refine And.intro ⟨_,Tryz.func206,rfl,rfl⟩ ?_;refine Wy ?_;refine Le (0+1) (hI:=?_) (hm:=?_) (hv:=?_)
    ·exact b
    ·simp only [z];exact Vr [_,_]
    ·show l.length- (0+1)<l.length-0;omega
   ·rw [m,zdf F,zcf] at z;refine Wy ?_;refine And.intro ⟨_,Tryz.func206,rfl,rfl⟩ ?_;refine Wy ?_;refine Le (0+1) (hI:=?_) (hm:=?_) (hv:=?_)
    ·exact b
    ·simp only [z];exact Vr [_,_]
    ·show l.length- (0+1)<l.length-0;omega
  ·have m:iT l [B,C,D,E] 1 1=K-C:=m;have f:0<=C/\C+(n:Int)<=(n0:Int):=f
   by_cases F:G<K-C
   ·rw [m,zdt F,zct] at z;refine Wy ?_;refine And.intro ⟨_,Tryz.func206,rfl,rfl⟩ ?_;refine Wy ?_;refine Le (1+1) (hI:=?_) (hm:=?_) (hv:=?_)
    ·exact b
    ·simp only [z];exact Vr [_,_]
    ·show l.length- (1+1)<l.length-1;omega
   ·rw [m,zdf F,zcf] at z;refine Wy ?_;refine And.intro ⟨_,Tryz.func206,rfl,rfl⟩ ?_;refine Wy ?_;refine Le (1+1) (hI:=?_) (hm:=?_) (hv:=?_)
    ·exact b
    ·simp only [z];exact Vr [_,_]
    ·show l.length- (1+1)<l.length-1;omega
  ·have m:iT l [B,C,D,E] 1 2=K-D:=m;have f:0<=D/\D+(n:Int)<=(n0:Int):=f
   by_cases F:G<K-D
   ·rw [m,zdt F,zct] at z;refine Wy ?_;refine And.intro ⟨_,Tryz.func206,rfl,rfl⟩ ?_;refine Wy ?_;refine Le (2+1) (hI:=?_) (hm:=?_) (hv:=?_)
    ·exact b
    ·simp only [z];exact Vr [_,_]
    ·show l.length- (2+1)<l.length-2;omega
   ·rw [m,zdf F,zcf] at z;refine Wy ?_;refine And.intro ⟨_,Tryz.func206,rfl,rfl⟩ ?_;refine Wy ?_;refine Le (2+1) (hI:=?_) (hm:=?_) (hv:=?_)
    ·exact b
    ·simp only [z];exact Vr [_,_]
    ·show l.length- (2+1)<l.length-2;omega
  ·have m:iT l [B,C,D,E] 1 3=K-E:=m;have f:0<=E/\E+(n:Int)<=(n0:Int):=f
   by_cases F:G<K-E
   ·rw [m,zdt F,zct] at z;refine Wy ?_;refine And.intro ⟨_,Tryz.func206,rfl,rfl⟩ ?_;refine Wy ?_;refine Le (3+1) (hI:=?_) (hm:=?_) (hv:=?_)
    ·exact b
    ·simp only [z];exact Vr [_,_]
    ·show l.length- (3+1)<l.length-3;omega
   ·rw [m,zdf F,zcf] at z;refine Wy ?_;refine And.intro ⟨_,Tryz.func206,rfl,rfl⟩ ?_;refine Wy ?_;refine Le (3+1) (hI:=?_) (hm:=?_) (hv:=?_)
    ·exact b
    ·simp only [z];exact Vr [_,_]
    ·show l.length- (3+1)<l.length-3;omega
 obtain rfl:i=l.length:=by omega
 generalize cP l [B,C,D,E] 1 l.length=bq at *;obtain⟨H,G⟩:=bq;dsimp only at *
 by_cases Q:H<0
 ·rw [zdt Q,zct] at J;subst J;exact pV
 ·rw [zdf Q,zcf] at J;obtain⟨j,rfl⟩:∃j:Nat,H=(j:Int):=⟨H.toNat,by omega⟩;rw [zC] at J;have f:=O.bd j;have hj:j=0\/j=1\/j=2\/j=3:=by omega
  rcases hj with rfl |rfl |rfl |rfl
  ·subst J;have f:0<=B/\B+(n:Int)<=(n0:Int):=f;exact pV
  ·subst J;have f:0<=C/\C+(n:Int)<=(n0:Int):=f;exact pV
  ·subst J;have f:0<=D/\D+(n:Int)<=(n0:Int):=f;exact pV
  ·subst J;have f:0<=E/\E+(n:Int)<=(n0:Int):=f;exact pV
def aC6(l:List Gr):Nat->List Int->List Int
 |0,s=>s
 |n+1,s=>bif mS l 0 s==s then(bif mS l 1 s==s then s else aC6 l n (mS l 1 s)) else aC6 l n (mS l 0 s)
theorem ShI.next {n0 n:Nat} {s:List Int} (h:ShI n0 (n+1) s)(j:Nat):ShI n0 n (s.set j (s.getD j 0+1)):=by
 refine⟨by rw [zE];exact h.len,λi=>?_⟩;have m:=h.bd i
 by_cases e:i=j
 ·subst e
  by_cases f:i<s.length
  ·rw [aE _ _ _ _ f];omega
  ·rw [dI _ _ (Nat.le_of_not_lt f)];omega
 ·rw [getD_set_ne _ _ _ e];omega
theorem aSC {l:List Gr} {n0 n:Nat} {s:List Int} (h:ShI n0 (n+1) s)(ps:Nat):ShI n0 n (mS l ps s):=by
 unfold mS
 cases decide ((cP l s ps l.length).1<0) with
 |true=>exact⟨h.len,λi=>by have :=h.bd i;show 0<=s.getD i 0/\s.getD i 0+(n:Int)<=n0;omega⟩
 |false=>exact h.next _
theorem shE(s:List Int)(k:Nat):aB (s.take k)=((shV s).take ((k:Int)).toNat).map (λc=> [c]):=by rw [zC];unfold aB shV;rw [<-List.map_take,List.map_map];rfl
noncomputable def bQV:Rsv Tryz.prog Tryz.f100 [] 2:=⟨_,_,rfl,rfl⟩
theorem bMZ(l:List Gr)(hg:mV l=true)(n:Nat)(hn:n<=1000):aM Tryz.prog 100 [] [.lst 3 false (aR l),.int .i64 (n:Int)] (.lst 1 false (aB ((aC6 l n [0,0,0,0]).take l.length))) []:=by
 have ac:=(lV hg).2;have ab:(aR l).length=l.length:=by simp [aR]
 have F:=bG6 l false (by omega);rw [hg] at F;rw [shE];generalize hQ:aC6 l n [0,0,0,0]=Q;refine fnZ bQV Tryz.func100 ?_;refine Wy ?_;refine Lp (α:=Nat×List Int) (λx=>ShI n x.1 x.2/\Q=aC6 l x.1 x.2) (λx=> [(1,.int .i64 (x.1:Int))]) (λx=> [(0,.box (shV x.2))]) (λx=>x.1) (n,[0,0,0,0]) ⟨⟨rfl,λi=>?_⟩,hQ.symm⟩ ?_ ?_
 ·have :([0,0,0,0]:List Int).getD i 0=0:=by
   match i with
   |0=>rfl
   |1=>rfl
   |2=>rfl
   |3=>rfl
   |i+4=>rfl
  rw [this];omega
 ·exact Vr [_]
 rintro ⟨m,s⟩ ⟨E,D⟩;dsimp only at E D;obtain⟨f,z,B,C,rfl⟩:=fou E.len
 have aa:=aAB (((shV [f,z,B,C]).take ((l.length:Int)).toNat).map (λc=> [c])) false (by
  rw [List.length_map,List.length_take,zC];omega)
 dsimp only;refine Wy ?_;refine iF (λb=>?_) (λb=>?_)
 ·obtain⟨m,rfl⟩:∃j,m=j+1:=⟨m-1,by omega⟩;have ad:m+1<=n:=by have :=E.bd 0;omega
  have ka:=bJE l hg n (m+1) hn f z B C E;have kb:=bJF l hg n (m+1) hn f z B C E;have hA:=aSC (l:=l) E 0;have hB:=aSC (l:=l) E 1;have e:aC6 l (m+1) [f,z,B,C]=bif mS l 0 [f,z,B,C]== [f,z,B,C] then(bif mS l 1 [f,z,B,C]== [f,z,B,C] then [f,z,B,C] else aC6 l m (mS l 1 [f,z,B,C])) else aC6 l m (mS l 0 [f,z,B,C]):=rfl
  generalize mS l 0 [f,z,B,C]=ma at *;generalize mS l 1 [f,z,B,C]=mb at *;obtain⟨R,T,W,Y,rfl⟩:=fou hA.len;obtain⟨Z,b1,b2,b3,rfl⟩:=fou hB.len;have hd:∀x0 G H J K M N O:Int,([x0,G,H,J]== [K,M,N,O])=(true&&x0==K&&G==M&&H==N&&J==O):=λx0 G H J K M N O=>by rw [Bool.eq_iff_iff];simp [and_assoc]
  rw [hd,hd] at e
  cases e1:(true&&R==f&&T==z&&W==B&&Y==C) with
  |false=> rw [e1,zcf] at e;refine Wy ?_;refine Le (m,[R,T,W,Y]) (hI:=⟨hA,D.trans e⟩) (hv:=?_);exact Vr [_]
  |true=>
   rw [e1,zct] at e
   cases e2:(true&&Z==f&&b1==z&&b2==B&&b3==C) with
   |false=> rw [e2,zcf] at e;refine Wy ?_;refine Le (m,[Z,b1,b2,b3]) (hI:=⟨hB,D.trans e⟩) (hv:=?_);exact Vr [_]
   |true=> rw [e2,zct] at e;rw [e] at D;subst D;refine Wy ?_;refine aI ⟨rfl,rfl,by omega,by omega⟩ ?_;exact pV
 ·obtain rfl:m=0:=by omega
  have D:Q=[f,z,B,C]:=D;subst D;refine Wy ?_;refine aI ⟨rfl,rfl,by omega,by omega⟩ ?_;exact pV
theorem aV1 {l:List Gr} {s:List Int} {ps i:Nat} (hi:i<l.length):iT l (s.take l.length) ps i=iT l s ps i:=by
 unfold iT;have :(s.take l.length).getD i 0=s.getD i 0:=by rw [zA,zA,zD hi]
 rw [this]
theorem uR {l:List Gr} {s:List Int} {ps:Nat} :∀i,i<=l.length->cP l (s.take l.length) ps i=cP l s ps i
 |0,_=>rfl
 |i+1,hi=>by rw [cP,cP,uR i (by omega),aV1 (by omega)]
theorem aMF {l:List Gr} {s:List Int} {ps:Nat} :∀i,(∀j,j<i->iT l s ps j<=0)->cP l s ps i=(-1,0)
 |0,_=>rfl
 |i+1,h=>by rw [cP,aMF i λj e=>h j (by omega),zdf (show ¬(0:Int)<iT l s ps i by have :=h i (by omega);omega),zcf]
theorem aRK {l:List Gr} {s:List Int} {ps:Nat} :∀i,(cP l s ps i).1<0->cP l s ps i=(-1,0)/\∀j,j<i->iT l s ps j<=0
 |0,_=>⟨rfl,λj m=>by omega⟩
 |i+1,h=>by
  rw [cP] at h⊢
  by_cases e:(cP l s ps i).2<iT l s ps i
  ·rw [zdt e,zct] at h;dsimp only at h;omega
  ·rw [zdf e,zcf] at h⊢;obtain⟨h1,h2⟩:=aRK i h;rw [h1] at e;refine⟨h1,λj m=>?_⟩
   by_cases f:j=i
   ·subst f;dsimp only at e;omega
   ·exact h2 j (by omega)
theorem bC4 {l:List Gr} {s:List Int} {ps:Nat} (h:(cP l s ps l.length).1<0)(j:Nat):(cP l (s.set j (s.getD j 0+1)) ps l.length).1<0:=by
 obtain⟨h1,h2⟩:=aRK _ h
 have :cP l (s.set j (s.getD j 0+1)) ps l.length=(-1,0):=aMF _ λi z=>by
  have k:=h2 i z
  have B:s.getD i 0<=(s.set j (s.getD j 0+1)).getD i 0:=by
   by_cases e:i=j
   ·subst e
    by_cases f:i<s.length
    ·rw [aE _ _ _ _ f];omega
    ·rw [dI _ _ (Nat.le_of_not_lt f)];omega
   ·rw [getD_set_ne _ _ _ e];omega
  unfold iT at k⊢
  cases m:(ps==0) with
  |true=>rw [m,zct] at k;rw [zct];omega
  |false=>rw [m,zcf] at k;rw [zcf];omega
 rw [this];decide
theorem aSB {l:List Gr} {s:List Int} {ps:Nat} (B:s.length=4)(z:l.length<=4)(h:¬(cP l s ps l.length).1<0):mS l ps s=s.set (cP l s ps l.length).1.toNat (s.getD (cP l s ps l.length).1.toNat 0+1)/\(mS l ps s==s)=false:=by
 have e:mS l ps s=s.set (cP l s ps l.length).1.toNat (s.getD (cP l s ps l.length).1.toNat 0+1):=by unfold mS;rw [zdf h,zcf]
 refine⟨e,?_⟩;rw [e,zbn];intro j;have m:=uQ l s ps l.length;have f:(cP l s ps l.length).1.toNat<s.length:=by omega
 have this:(s.set (cP l s ps l.length).1.toNat (s.getD (cP l s ps l.length).1.toNat 0+1)).getD (cP l s ps l.length).1.toNat 0=s.getD (cP l s ps l.length).1.toNat 0:=by rw [j]
 rw [aE _ _ _ _ f] at this;omega
theorem aSA {l:List Gr} {s:List Int} {ps:Nat} (h:(cP l s ps l.length).1<0):mS l ps s=s:=by unfold mS;rw [zdt h,zct]
theorem take_set(s:List Int)(j k:Nat)(x:Int):(s.set j x).take k=(s.take k).set j x:=by rw [List.take_set]
theorem aMX {l:List Gr} (f:l.length<=4):∀n s,s.length=4->(cP l s 0 l.length).1<0->(aC6 l n s).take l.length=(divN l 1 n (s.take l.length)).1
 |0,s,_,_=>rfl
 |n+1,s,j,h=>by
  rw [aC6,divN,aSA h,beq_self_eq_true,zct,uR _ (zF _)]
  by_cases e:(cP l s 1 l.length).1<0
  ·rw [zdt e,aSA e,beq_self_eq_true];rfl
  ·obtain⟨e1,m⟩:=aSB j f e;rw [zdf e,m,zcf,zcf,e1];have B:=uQ l s 1 l.length;have z:(s.take l.length).getD (cP l s 1 l.length).1.toNat 0=s.getD (cP l s 1 l.length).1.toNat 0:=by rw [zA,zA,zD (by omega)]
   rw [z,<-take_set];exact aMX f n _ (by rw [zE];exact j) (bC4 h _)
theorem aRV {l:List Gr} (f:l.length<=4):∀n s,s.length=4->(aC6 l n s).take l.length=(divN l 1 (divN l 0 n (s.take l.length)).2 (divN l 0 n (s.take l.length)).1).1
 |0,s,_=>rfl
 |n+1,s,j=>by
  by_cases e:(cP l s 0 l.length).1<0
  ·have z:divN l 0 (n+1) (s.take l.length)=(s.take l.length,n+1):=by rw [divN,uR _ (zF _),zdt e,zct]
   rw [z];exact aMX f (n+1) s j e
  ·obtain⟨e1,m⟩:=aSB j f e;rw [aC6,divN,uR _ (zF _),zdf e,m,zcf,zcf,e1];have C:=uQ l s 0 l.length;have B:(s.take l.length).getD (cP l s 0 l.length).1.toNat 0=s.getD (cP l s 0 l.length).1.toNat 0:=by rw [zA,zA,zD (by omega)]
   rw [B,<-take_set];exact aRV f n _ (by rw [zE];exact j)
theorem bHZ {l:List Gr} (e:l.length<=4)(n:Nat):(aC6 l n [0,0,0,0]).take l.length=(aA7 l n 2).1:=by
 rw [aRV e n _ rfl]
 have :([0,0,0,0]:List Int).take l.length=List.replicate l.length 0:=by
  have h:l.length=0\/l.length=1\/l.length=2\/l.length=3\/l.length=4:=by omega
  rcases h with h |h |h |h |h <;> rw [h] <;> rfl
 rw [this];rfl
theorem bIY(l:List Gr)(hg:mV l=true)(n:Nat)(e:n<=1000):aM Tryz.prog 100 [] [.lst 3 false (aR l),.int .i64 (n:Int)] (.lst 1 false (aB (aA7 l n 2).1)) []:=by rw [<-bHZ (lV hg).2];exact bMZ l hg n e
end Go.Proofs.YtmhapcbjjpadnaaGreat
