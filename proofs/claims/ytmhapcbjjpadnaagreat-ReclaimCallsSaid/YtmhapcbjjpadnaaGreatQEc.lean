/- Caches. -/
import Derived.Test.YtmhapcbjjpadnaaGreatHAc
import Derived.Test.YtmhapcbjjpadnaaGreatG7c
set_option linter.all false
set_option maxHeartbeats 8000000
set_option maxRecDepth 40000
open Int renaming toNat_natCast→zC
open List renaming getD_eq_getElem?_getD→zA,getElem?_take_of_lt→zD,length_set→zE
open Nat renaming le_refl→zF
namespace Go.Proofs.YtmhapcbjjpadnaaGreat
open Go Go.Sk Go.RowKit
theorem aZQ(g:Gr)(e:0<=g.chg/\g.chg<=64)(h2:0<=g.pro/\g.pro<=64):aM Tryz.prog 105 [] [.agg g.c] (.int .i64 (iF g)) []:=by
 unfold iF
 by_cases h:g.chg<=g.pro
 ·rw [zdt h];refine aE (ob0:= []) [] Tryz.func105 rfl rfl rfl rfl ?_;exact kK
 ·rw [zdf h];refine aE (ob0:= []) [] Tryz.func105 rfl rfl rfl rfl ?_;exact kK
theorem bP7(g:Gr):aM Tryz.prog 206 [] [.agg g.c] (.int .i64 g.chg) []:=by refine aE (ob0:= []) [] Tryz.func206 rfl rfl rfl rfl ?_;exact kK
def shV(s:List Int):List V:=s.map (V.int .i64)
def nE(l:List Gr)(ps:Nat)(s:List Int):List Int:=bif decide ((cJ l s ps l.length).1<0) then s else s.set (cJ l s ps l.length).1.toNat (s.getD (cJ l s ps l.length).1.toNat 0+1)
theorem fou {s:List Int} (h:s.length=4):∃a b c d,s=[a,b,c,d]:=by
 match s,h with
 | [a,b,c,d],_=>exact⟨a,b,c,d,rfl⟩
structure ShI(n0 n:Nat)(s:List Int):Prop where
 len:s.length=4
 bd:∀i,0<=s.getD i 0/\s.getD i 0+(n:Int)<=(n0:Int)
theorem aRT {l:List Gr} (h:mY l=true) {n0 n:Nat} {s:List Int} (f:ShI n0 n s)(ps:Nat):∀i,i<=l.length->0<=(cJ l s ps i).2/\(cJ l s ps i).2<=64
 |0,_=>⟨Int.le_refl _,by show(0:Int)<=64;omega⟩
 |i+1,hi=>by
  have j:=aRT h f ps i (by omega);obtain⟨⟨m,z⟩,B,C⟩:=uA h (show i<l.length by omega);have D:=f.bd i;rw [cJ]
  by_cases e:(cJ l s ps i).2<jN l s ps i
  ·rw [zdt e,zct];dsimp only;refine⟨by omega,?_⟩;unfold jN iF
   cases(ps==0) with
   |true=>
    rw [zct]
    cases decide ((l.getD i g0).chg<=(l.getD i g0).pro) with
    |true=>rw [zct];omega
    |false=>rw [zcf];omega
   |false=>rw [zcf];omega
  ·rw [zdf e,zcf];exact j
noncomputable def bM1:Rsv Tryz.prog Tryz.f205 [] 3:=⟨_,_,rfl,rfl⟩
theorem bK4(l:List Gr)(hg:mY l=true)(n0 n:Nat)(hn:n0<=1000)(B C D E:Int)(Q:ShI n0 n [B,C,D,E]):aM Tryz.prog 205 [] [.agg (shV [B,C,D,E]),.lst 3 false (aQ l),.fn 105 []] (.agg (shV (nE l 0 [B,C,D,E]))) []:=by
 have ad:=(lD hg).2;have Z:(aQ l).length=l.length:=by simp [aQ]
 generalize J:nE l 0 [B,C,D,E]=q;unfold nE at J;refine fnZ bM1 Tryz.func205 ?_;refine Wy ?_;refine Lp (λi:Nat=>i<=l.length) (λi=> [(14,.int .i64 (i:Int)),(7,.int .i64 (cJ l [B,C,D,E] 0 i).1),(8,.int .i64 (cJ l [B,C,D,E] 0 i).2)]) (λi=> []) (λi=>l.length-i) 0 (Nat.zero_le _) ?_ ?_
 ·exact Vr [_,_]
 intro i hi;have aa:=rN l [B,C,D,E] 0 i;have ab:=aRT hg Q 0 i hi;refine Wy ?_;refine gE (λb=>?_) (λb=>?_)
 ·have b:i<l.length:=by omega
  have N:=cY l i b;rw [zC] at N;obtain⟨W,Y⟩:=uA hg b;have f:=Q.bd i;have T:=aZQ (l.getD i g0) W Y;have z:cJ l [B,C,D,E] 0 (i+1)=bif decide ((cJ l [B,C,D,E] 0 i).2<jN l [B,C,D,E] 0 i) then((i:Int),jN l [B,C,D,E] 0 i) else cJ l [B,C,D,E] 0 i:=rfl
  have m:jN l [B,C,D,E] 0 i=(iF (l.getD i g0))- [B,C,D,E].getD i 0:=rfl
  have ac:0<=(iF (l.getD i g0))/\(iF (l.getD i g0))<=64:=by
   (try unfold iF)
   by_cases e:(l.getD i g0).chg<=(l.getD i g0).pro
   ·(try rw [zdt e,zct]);omega
   ·(try rw [zdf e,zcf]);omega
  generalize hL:(iF (l.getD i g0))=K at *;generalize l.getD i g0=g at *;generalize cJ l [B,C,D,E] 0 i=M at *;obtain⟨H,G⟩:=M;dsimp only at *;have O:i=0\/i=1\/i=2\/i=3:=by omega
  rcases O with rfl |rfl |rfl |rfl
  ·have m:jN l [B,C,D,E] 0 0=K-B:=m;have f:0<=B/\B+(n:Int)<=(n0:Int):=f
   by_cases F:G<K-B
   ·rw [m,zdt F,zct] at z;refine Wy ?_;refine And.intro ⟨_,Tryz.func105,rfl,rfl⟩ ?_;refine Wy ?_;refine Le (0+1) (hI:=?_) (hm:=?_) (hv:=?_)
    ·exact b
    ·simp only [z];exact Vr [_,_]
    ·show l.length- (0+1)<l.length-0;omega
   ·rw [m,zdf F,zcf] at z;refine Wy ?_;refine And.intro ⟨_,Tryz.func105,rfl,rfl⟩ ?_;refine Wy ?_;refine Le (0+1) (hI:=?_) (hm:=?_) (hv:=?_)
    ·exact b
    ·simp only [z];exact Vr [_,_]
    ·show l.length- (0+1)<l.length-0;omega
  ·have m:jN l [B,C,D,E] 0 1=K-C:=m;have f:0<=C/\C+(n:Int)<=(n0:Int):=f
   by_cases F:G<K-C
   ·rw [m,zdt F,zct] at z;refine Wy ?_;refine And.intro ⟨_,Tryz.func105,rfl,rfl⟩ ?_;refine Wy ?_;refine Le (1+1) (hI:=?_) (hm:=?_) (hv:=?_)
    ·exact b
    ·simp only [z];exact Vr [_,_]
    ·show l.length- (1+1)<l.length-1;omega
   ·rw [m,zdf F,zcf] at z;refine Wy ?_;refine And.intro ⟨_,Tryz.func105,rfl,rfl⟩ ?_;refine Wy ?_;refine Le (1+1) (hI:=?_) (hm:=?_) (hv:=?_)
    ·exact b
    ·simp only [z];exact Vr [_,_]
    ·show l.length- (1+1)<l.length-1;omega
  ·have m:jN l [B,C,D,E] 0 2=K-D:=m;have f:0<=D/\D+(n:Int)<=(n0:Int):=f
   by_cases F:G<K-D
   ·rw [m,zdt F,zct] at z;refine Wy ?_;refine And.intro ⟨_,Tryz.func105,rfl,rfl⟩ ?_;refine Wy ?_;refine Le (2+1) (hI:=?_) (hm:=?_) (hv:=?_)
    ·exact b
    ·simp only [z];exact Vr [_,_]
    ·show l.length- (2+1)<l.length-2;omega
   ·rw [m,zdf F,zcf] at z;refine Wy ?_;refine And.intro ⟨_,Tryz.func105,rfl,rfl⟩ ?_;refine Wy ?_;refine Le (2+1) (hI:=?_) (hm:=?_) (hv:=?_)
    ·exact b
    ·simp only [z];exact Vr [_,_]
    ·show l.length- (2+1)<l.length-2;omega
  ·have m:jN l [B,C,D,E] 0 3=K-E:=m;have f:0<=E/\E+(n:Int)<=(n0:Int):=f
   by_cases F:G<K-E
   ·rw [m,zdt F,zct] at z;refine Wy ?_;refine And.intro ⟨_,Tryz.func105,rfl,rfl⟩ ?_;refine Wy ?_;refine Le (3+1) (hI:=?_) (hm:=?_) (hv:=?_)
    ·exact b
    ·simp only [z];exact Vr [_,_]
    ·show l.length- (3+1)<l.length-3;omega
   ·rw [m,zdf F,zcf] at z;refine Wy ?_;refine And.intro ⟨_,Tryz.func105,rfl,rfl⟩ ?_;refine Wy ?_;refine Le (3+1) (hI:=?_) (hm:=?_) (hv:=?_)
    ·exact b
    ·simp only [z];exact Vr [_,_]
    ·show l.length- (3+1)<l.length-3;omega
 obtain rfl:i=l.length:=by omega
 generalize cJ l [B,C,D,E] 0 l.length=M at *;obtain⟨H,G⟩:=M;dsimp only at *
 by_cases R:H<0
 ·rw [zdt R,zct] at J;subst J;exact kK
 ·rw [zdf R,zcf] at J;obtain⟨j,rfl⟩:∃j:Nat,H=(j:Int):=⟨H.toNat,by omega⟩;rw [zC] at J;have f:=Q.bd j;have hj:j=0\/j=1\/j=2\/j=3:=by omega
  rcases hj with rfl |rfl |rfl |rfl
  ·subst J;have f:0<=B/\B+(n:Int)<=(n0:Int):=f;exact kK
  ·subst J;have f:0<=C/\C+(n:Int)<=(n0:Int):=f;exact kK
  ·subst J;have f:0<=D/\D+(n:Int)<=(n0:Int):=f;exact kK
  ·subst J;have f:0<=E/\E+(n:Int)<=(n0:Int):=f;exact kK
theorem bK5(l:List Gr)(hg:mY l=true)(n0 n:Nat)(hn:n0<=1000)(B C D E:Int)(Q:ShI n0 n [B,C,D,E]):aM Tryz.prog 205 [] [.agg (shV [B,C,D,E]),.lst 3 false (aQ l),.fn 206 []] (.agg (shV (nE l 1 [B,C,D,E]))) []:=by
 have ab:=(lD hg).2;have W:(aQ l).length=l.length:=by simp [aQ]
 generalize J:nE l 1 [B,C,D,E]=q;unfold nE at J;refine fnZ bM1 Tryz.func205 ?_;refine Wy ?_;refine Lp (λi:Nat=>i<=l.length) (λi=> [(14,.int .i64 (i:Int)),(7,.int .i64 (cJ l [B,C,D,E] 1 i).1),(8,.int .i64 (cJ l [B,C,D,E] 1 i).2)]) (λi=> []) (λi=>l.length-i) 0 (Nat.zero_le _) ?_ ?_
 ·exact Vr [_,_]
 intro i hi;have Y:=rN l [B,C,D,E] 1 i;have Z:=aRT hg Q 1 i hi;refine Wy ?_;refine gE (λb=>?_) (λb=>?_)
 ·have b:i<l.length:=by omega
  have N:=cY l i b;rw [zC] at N;obtain⟨a1,a2⟩:=uA hg b;have f:=Q.bd i;have T:=bP7 (l.getD i g0);have z:cJ l [B,C,D,E] 1 (i+1)=bif decide ((cJ l [B,C,D,E] 1 i).2<jN l [B,C,D,E] 1 i) then((i:Int),jN l [B,C,D,E] 1 i) else cJ l [B,C,D,E] 1 i:=rfl
  have m:jN l [B,C,D,E] 1 i=(l.getD i g0).chg- [B,C,D,E].getD i 0:=rfl
  have aa:0<=(l.getD i g0).chg/\(l.getD i g0).chg<=64:=by
   (try unfold iF)
   by_cases e:(l.getD i g0).chg<=(l.getD i g0).pro
   ·(try rw [zdt e,zct]);omega
   ·(try rw [zdf e,zcf]);omega
  generalize hL:(l.getD i g0).chg=K at *;generalize l.getD i g0=g at *;generalize cJ l [B,C,D,E] 1 i=M at *;obtain⟨H,G⟩:=M;dsimp only at *;have O:i=0\/i=1\/i=2\/i=3:=by omega
  rcases O with rfl |rfl |rfl |rfl
  ·have m:jN l [B,C,D,E] 1 0=K-B:=m;have f:0<=B/\B+(n:Int)<=(n0:Int):=f
   by_cases F:G<K-B
   ·rw [m,zdt F,zct] at z;refine Wy ?_;refine And.intro ⟨_,Tryz.func206,rfl,rfl⟩ ?_;refine Wy ?_;refine Le (0+1) (hI:=?_) (hm:=?_) (hv:=?_)
    ·exact b
    ·simp only [z];exact Vr [_,_]
    ·show l.length- (0+1)<l.length-0;omega
   ·rw [m,zdf F,zcf] at z;refine Wy ?_;refine And.intro ⟨_,Tryz.func206,rfl,rfl⟩ ?_;refine Wy ?_;refine Le (0+1) (hI:=?_) (hm:=?_) (hv:=?_)
    ·exact b
    ·simp only [z];exact Vr [_,_]
    ·show l.length- (0+1)<l.length-0;omega
  ·have m:jN l [B,C,D,E] 1 1=K-C:=m;have f:0<=C/\C+(n:Int)<=(n0:Int):=f
   by_cases F:G<K-C
   ·rw [m,zdt F,zct] at z;refine Wy ?_;refine And.intro ⟨_,Tryz.func206,rfl,rfl⟩ ?_;refine Wy ?_;refine Le (1+1) (hI:=?_) (hm:=?_) (hv:=?_)
    ·exact b
    ·simp only [z];exact Vr [_,_]
    ·show l.length- (1+1)<l.length-1;omega
   ·rw [m,zdf F,zcf] at z;refine Wy ?_;refine And.intro ⟨_,Tryz.func206,rfl,rfl⟩ ?_;refine Wy ?_;refine Le (1+1) (hI:=?_) (hm:=?_) (hv:=?_)
    ·exact b
    ·simp only [z];exact Vr [_,_]
    ·show l.length- (1+1)<l.length-1;omega
  ·have m:jN l [B,C,D,E] 1 2=K-D:=m;have f:0<=D/\D+(n:Int)<=(n0:Int):=f
   by_cases F:G<K-D
   ·rw [m,zdt F,zct] at z;refine Wy ?_;refine And.intro ⟨_,Tryz.func206,rfl,rfl⟩ ?_;refine Wy ?_;refine Le (2+1) (hI:=?_) (hm:=?_) (hv:=?_)
    ·exact b
    ·simp only [z];exact Vr [_,_]
    ·show l.length- (2+1)<l.length-2;omega
   ·rw [m,zdf F,zcf] at z;refine Wy ?_;refine And.intro ⟨_,Tryz.func206,rfl,rfl⟩ ?_;refine Wy ?_;refine Le (2+1) (hI:=?_) (hm:=?_) (hv:=?_)
    ·exact b
    ·simp only [z];exact Vr [_,_]
    ·show l.length- (2+1)<l.length-2;omega
  ·have m:jN l [B,C,D,E] 1 3=K-E:=m;have f:0<=E/\E+(n:Int)<=(n0:Int):=f
   by_cases F:G<K-E
   ·rw [m,zdt F,zct] at z;refine Wy ?_;refine And.intro ⟨_,Tryz.func206,rfl,rfl⟩ ?_;refine Wy ?_;refine Le (3+1) (hI:=?_) (hm:=?_) (hv:=?_)
    ·exact b
    ·simp only [z];exact Vr [_,_]
    ·show l.length- (3+1)<l.length-3;omega
   ·rw [m,zdf F,zcf] at z;refine Wy ?_;refine And.intro ⟨_,Tryz.func206,rfl,rfl⟩ ?_;refine Wy ?_;refine Le (3+1) (hI:=?_) (hm:=?_) (hv:=?_)
    ·exact b
    ·simp only [z];exact Vr [_,_]
    ·show l.length- (3+1)<l.length-3;omega
 obtain rfl:i=l.length:=by omega
 generalize cJ l [B,C,D,E] 1 l.length=M at *;obtain⟨H,G⟩:=M;dsimp only at *
 by_cases R:H<0
 ·rw [zdt R,zct] at J;subst J;exact kK
 ·rw [zdf R,zcf] at J;obtain⟨j,rfl⟩:∃j:Nat,H=(j:Int):=⟨H.toNat,by omega⟩;rw [zC] at J;have f:=Q.bd j;have hj:j=0\/j=1\/j=2\/j=3:=by omega
  rcases hj with rfl |rfl |rfl |rfl
  ·subst J;have f:0<=B/\B+(n:Int)<=(n0:Int):=f;exact kK
  ·subst J;have f:0<=C/\C+(n:Int)<=(n0:Int):=f;exact kK
  ·subst J;have f:0<=D/\D+(n:Int)<=(n0:Int):=f;exact kK
  ·subst J;have f:0<=E/\E+(n:Int)<=(n0:Int):=f;exact kK
def aCV(l:List Gr):Nat->List Int->List Int
 |0,s=>s
 |n+1,s=>bif nE l 0 s==s then(bif nE l 1 s==s then s else aCV l n (nE l 1 s)) else aCV l n (nE l 0 s)
theorem ShI.next {n0 n:Nat} {s:List Int} (h:ShI n0 (n+1) s)(j:Nat):ShI n0 n (s.set j (s.getD j 0+1)):=by
 refine⟨by rw [zE];exact h.len,λi=>?_⟩;have m:=h.bd i
 by_cases e:i=j
 ·subst e
  by_cases f:i<s.length
  ·rw [aH _ _ _ _ f];omega
  ·rw [eG _ _ (Nat.le_of_not_lt f)];omega
 ·rw [getD_set_ne _ _ _ e];omega
theorem aT5 {l:List Gr} {n0 n:Nat} {s:List Int} (h:ShI n0 (n+1) s)(ps:Nat):ShI n0 n (nE l ps s):=by
 unfold nE
 cases decide ((cJ l s ps l.length).1<0) with
 |true=>exact⟨h.len,λi=>by have :=h.bd i;show 0<=s.getD i 0/\s.getD i 0+(n:Int)<=n0;omega⟩
 |false=>exact h.next _
theorem shE(s:List Int)(k:Nat):aB (s.take k)=((shV s).take ((k:Int)).toNat).map (λc=> [c]):=by rw [zC];unfold aB shV;rw [<-List.map_take,List.map_map];rfl
noncomputable def bS6:Rsv Tryz.prog Tryz.f100 [] 2:=⟨_,_,rfl,rfl⟩
theorem bO9(l:List Gr)(hg:mY l=true)(n:Nat)(hn:n<=1000):aM Tryz.prog 100 [] [.lst 3 false (aQ l),.int .i64 (n:Int)] (.lst 1 false (aB ((aCV l n [0,0,0,0]).take l.length))) []:=by
 have ac:=(lD hg).2;have ab:(aQ l).length=l.length:=by simp [aQ]
 have F:=bGS l false (by omega);rw [hg] at F;rw [shE];generalize hQ:aCV l n [0,0,0,0]=Q;refine fnZ bS6 Tryz.func100 ?_;refine Wy ?_;refine Lp (α:=Nat×List Int) (λx=>ShI n x.1 x.2/\Q=aCV l x.1 x.2) (λx=> [(1,.int .i64 (x.1:Int))]) (λx=> [(0,.box (shV x.2))]) (λx=>x.1) (n,[0,0,0,0]) ⟨⟨rfl,λi=>?_⟩,hQ.symm⟩ ?_ ?_
 ·have :([0,0,0,0]:List Int).getD i 0=0:=by
   match i with
   |0=>rfl
   |1=>rfl
   |2=>rfl
   |3=>rfl
   |i+4=>rfl
  rw [this];omega
 ·exact Vr [_]
 rintro ⟨m,s⟩ ⟨E,D⟩;dsimp only at E D;obtain⟨f,z,B,C,rfl⟩:=fou E.len
 have aa:=aAQ (((shV [f,z,B,C]).take ((l.length:Int)).toNat).map (λc=> [c])) false (by
  rw [List.length_map,List.length_take,zC];omega)
 dsimp only;refine Wy ?_;refine gE (λb=>?_) (λb=>?_)
 ·obtain⟨m,rfl⟩:∃j,m=j+1:=⟨m-1,by omega⟩;have ad:m+1<=n:=by have :=E.bd 0;omega
  have ka:=bK4 l hg n (m+1) hn f z B C E;have kb:=bK5 l hg n (m+1) hn f z B C E;have hA:=aT5 (l:=l) E 0;have hB:=aT5 (l:=l) E 1;have e:aCV l (m+1) [f,z,B,C]=bif nE l 0 [f,z,B,C]== [f,z,B,C] then(bif nE l 1 [f,z,B,C]== [f,z,B,C] then [f,z,B,C] else aCV l m (nE l 1 [f,z,B,C])) else aCV l m (nE l 0 [f,z,B,C]):=rfl
  generalize nE l 0 [f,z,B,C]=ma at *;generalize nE l 1 [f,z,B,C]=mb at *;obtain⟨R,T,W,Y,rfl⟩:=fou hA.len;obtain⟨Z,b1,b2,b3,rfl⟩:=fou hB.len;have hd:∀x0 G H J K M N O:Int,([x0,G,H,J]== [K,M,N,O])=(true&&x0==K&&G==M&&H==N&&J==O):=λx0 G H J K M N O=>by rw [Bool.eq_iff_iff];simp [and_assoc]
  rw [hd,hd] at e
  cases e1:(true&&R==f&&T==z&&W==B&&Y==C) with
  |false=> rw [e1,zcf] at e;refine Wy ?_;refine Le (m,[R,T,W,Y]) (hI:=⟨hA,D.trans e⟩) (hv:=?_);exact Vr [_]
  |true=>
   rw [e1,zct] at e
   cases e2:(true&&Z==f&&b1==z&&b2==B&&b3==C) with
   |false=> rw [e2,zcf] at e;refine Wy ?_;refine Le (m,[Z,b1,b2,b3]) (hI:=⟨hB,D.trans e⟩) (hv:=?_);exact Vr [_]
   |true=> rw [e2,zct] at e;rw [e] at D;subst D;refine Wy ?_;refine aG ⟨rfl,rfl,by omega,by omega⟩ ?_;exact kK
 ·obtain rfl:m=0:=by omega
  have D:Q=[f,z,B,C]:=D;subst D;refine Wy ?_;refine aG ⟨rfl,rfl,by omega,by omega⟩ ?_;exact kK
theorem aVZ {l:List Gr} {s:List Int} {ps i:Nat} (hi:i<l.length):jN l (s.take l.length) ps i=jN l s ps i:=by
 unfold jN;have :(s.take l.length).getD i 0=s.getD i 0:=by rw [zA,zA,zD hi]
 rw [this]
theorem vG {l:List Gr} {s:List Int} {ps:Nat} :∀i,i<=l.length->cJ l (s.take l.length) ps i=cJ l s ps i
 |0,_=>rfl
 |i+1,hi=>by rw [cJ,cJ,vG i (by omega),aVZ (by omega)]
theorem aN8 {l:List Gr} {s:List Int} {ps:Nat} :∀i,(∀j,j<i->jN l s ps j<=0)->cJ l s ps i=(-1,0)
 |0,_=>rfl
 |i+1,h=>by rw [cJ,aN8 i λj e=>h j (by omega),zdf (show ¬(0:Int)<jN l s ps i by have :=h i (by omega);omega),zcf]
theorem aSE {l:List Gr} {s:List Int} {ps:Nat} :∀i,(cJ l s ps i).1<0->cJ l s ps i=(-1,0)/\∀j,j<i->jN l s ps j<=0
 |0,_=>⟨rfl,λj z=>by omega⟩
 |i+1,h=>by
  rw [cJ] at h⊢
  by_cases e:(cJ l s ps i).2<jN l s ps i
  ·rw [zdt e,zct] at h;dsimp only at h;omega
  ·rw [zdf e,zcf] at h⊢;obtain⟨f,h2⟩:=aSE i h;rw [f] at e;refine⟨f,λj z=>?_⟩
   by_cases m:j=i
   ·subst m;dsimp only at e;omega
   ·exact h2 j (by omega)
theorem bCJ {l:List Gr} {s:List Int} {ps:Nat} (h:(cJ l s ps l.length).1<0)(j:Nat):(cJ l (s.set j (s.getD j 0+1)) ps l.length).1<0:=by
 obtain⟨B,h2⟩:=aSE _ h
 have :cJ l (s.set j (s.getD j 0+1)) ps l.length=(-1,0):=aN8 _ λi z=>by
  have k:=h2 i z
  have C:s.getD i 0<=(s.set j (s.getD j 0+1)).getD i 0:=by
   by_cases e:i=j
   ·subst e
    by_cases f:i<s.length
    ·rw [aH _ _ _ _ f];omega
    ·rw [eG _ _ (Nat.le_of_not_lt f)];omega
   ·rw [getD_set_ne _ _ _ e];omega
  unfold jN at k⊢
  cases m:(ps==0) with
  |true=>rw [m,zct] at k;rw [zct];omega
  |false=>rw [m,zcf] at k;rw [zcf];omega
 rw [this];decide
theorem aT4 {l:List Gr} {s:List Int} {ps:Nat} (B:s.length=4)(z:l.length<=4)(h:¬(cJ l s ps l.length).1<0):nE l ps s=s.set (cJ l s ps l.length).1.toNat (s.getD (cJ l s ps l.length).1.toNat 0+1)/\(nE l ps s==s)=false:=by
 have e:nE l ps s=s.set (cJ l s ps l.length).1.toNat (s.getD (cJ l s ps l.length).1.toNat 0+1):=by unfold nE;rw [zdf h,zcf]
 refine⟨e,?_⟩;rw [e,zbn];intro j;have m:=rN l s ps l.length;have f:(cJ l s ps l.length).1.toNat<s.length:=by omega
 have this:(s.set (cJ l s ps l.length).1.toNat (s.getD (cJ l s ps l.length).1.toNat 0+1)).getD (cJ l s ps l.length).1.toNat 0=s.getD (cJ l s ps l.length).1.toNat 0:=by rw [j]
 rw [aH _ _ _ _ f] at this;omega
theorem aT3 {l:List Gr} {s:List Int} {ps:Nat} (h:(cJ l s ps l.length).1<0):nE l ps s=s:=by unfold nE;rw [zdt h,zct]
theorem take_set(s:List Int)(j k:Nat)(x:Int):(s.set j x).take k=(s.take k).set j x:=by rw [List.take_set]
theorem aNQ {l:List Gr} (f:l.length<=4):∀n s,s.length=4->(cJ l s 0 l.length).1<0->(aCV l n s).take l.length=(divN l 1 n (s.take l.length)).1
 |0,s,_,_=>rfl
 |n+1,s,j,h=>by
  rw [aCV,divN,aT3 h,beq_self_eq_true,zct,vG _ (zF _)]
  by_cases e:(cJ l s 1 l.length).1<0
  ·rw [zdt e,aT3 e,beq_self_eq_true];rfl
  ·obtain⟨e1,m⟩:=aT4 j f e;rw [zdf e,m,zcf,zcf,e1];have B:=rN l s 1 l.length;have z:(s.take l.length).getD (cJ l s 1 l.length).1.toNat 0=s.getD (cJ l s 1 l.length).1.toNat 0:=by rw [zA,zA,zD (by omega)]
   rw [z,<-take_set];exact aNQ f n _ (by rw [zE];exact j) (bCJ h _)
theorem aSM {l:List Gr} (f:l.length<=4):∀n s,s.length=4->(aCV l n s).take l.length=(divN l 1 (divN l 0 n (s.take l.length)).2 (divN l 0 n (s.take l.length)).1).1
 |0,s,_=>rfl
 |n+1,s,j=>by
  by_cases e:(cJ l s 0 l.length).1<0
  ·have z:divN l 0 (n+1) (s.take l.length)=(s.take l.length,n+1):=by rw [divN,vG _ (zF _),zdt e,zct]
   rw [z];exact aNQ f (n+1) s j e
  ·obtain⟨e1,m⟩:=aT4 j f e;rw [aCV,divN,vG _ (zF _),zdf e,m,zcf,zcf,e1];have C:=rN l s 0 l.length;have B:(s.take l.length).getD (cJ l s 0 l.length).1.toNat 0=s.getD (cJ l s 0 l.length).1.toNat 0:=by rw [zA,zA,zD (by omega)]
   rw [B,<-take_set];exact aSM f n _ (by rw [zE];exact j)
theorem bIO {l:List Gr} (e:l.length<=4)(n:Nat):(aCV l n [0,0,0,0]).take l.length=(lA l n 2).1:=by
 rw [aSM e n _ rfl]
 have :([0,0,0,0]:List Int).take l.length=List.replicate l.length 0:=by
  have h:l.length=0\/l.length=1\/l.length=2\/l.length=3\/l.length=4:=by omega
  rcases h with h |h |h |h |h <;> rw [h] <;> rfl
 rw [this];rfl
theorem bJM(l:List Gr)(hg:mY l=true)(n:Nat)(e:n<=1000):aM Tryz.prog 100 [] [.lst 3 false (aQ l),.int .i64 (n:Int)] (.lst 1 false (aB (lA l n 2).1)) []:=by rw [<-bIO (lD hg).2];exact bO9 l hg n e
end Go.Proofs.YtmhapcbjjpadnaaGreat
