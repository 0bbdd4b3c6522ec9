/- Caches. -/
import Derived.Test.YtmhapcbjjpadnaaGreatGEc
import Derived.Test.YtmhapcbjjpadnaaGreatK8c
import Derived.Test.YtmhapcbjjpadnaaGreatGFc
import Derived.Test.YtmhapcbjjpadnaaGreatGGc
import Derived.Test.YtmhapcbjjpadnaaGreatGCc
import Derived.Test.YtmhapcbjjpadnaaGreatG6c
import Derived.Test.YtmhapcbjjpadnaaGreatG3c
import Derived.Test.YtmhapcbjjpadnaaGreatGIc
set_option linter.all false
set_option maxHeartbeats 8000000
set_option maxRecDepth 40000
open Bool renaming cond_false_right→zJ,cond_true_left→zL,not_eq_false'→zN,not_eq_true'→zQ
open Int renaming toNat_natCast→zR
open List renaming length_set→zA,replicate→zC,append_nil→zD,take_succ_eq_append_getElem→zE,getD_eq_getElem?_getD→zF,getElem?_eq_getElem→zH,length_take→zI,length_filter_le→zK,getElem_of_mem→zM,getElem?_drop→zO,length_append→zP,getElem_mem→zS
open Nat renaming zero_le→zG
namespace Go.Proofs.YtmhapcbjjpadnaaGreat
open Go Go.Sk Go.RowKit
theorem bBD(E:dJ)(h a:Nat):∃k0 k1 k2 v m,sub E h a=[.lst k0 k1 k2,.int .i64 v,.int .i64 m]:=by
 cases h with
 |zero=>exact⟨0,true,[],_,_,rfl⟩
 |succ h=>
  rw [sub]
  cases gU E a (4^(h+1)) with
  |true=>exact⟨0,true,[],0,0,rfl⟩
  |false=>exact⟨3,false,_,0,_,rfl⟩
theorem bA2(v m:Int):aM Tryz.prog 191 [] [.agg [bL,.int .i64 v,.int .i64 m]] (.agg [bL,.int .i64 v,.int .i64 m]) []:=by
 refine aE (ob0:= []) [] Tryz.func191 rfl rfl rfl rfl ?_;refine Wx ?_;refine Lp (λ_:Unit=>True) (λ_=> [(11,.int .i64 0)]) (λ_=> []) (λ_=>0) () trivial ?_ ?_
 ·exact Vr [_,_]
 intro _ _;exact Wz
theorem bK3(K:List (List V))(v m:Int)(z:K.length<=4)(f:∀i,i<K.length->∃k0 k1 k2 a b,K.getD i []=[.lst k0 k1 k2,.int .i64 a,.int .i64 b]/\aM Tryz.prog 191 [] [.agg [.lst k0 k1 k2,.int .i64 a,.int .i64 b]] (.agg [.lst k0 k1 k2,.int .i64 a,.int .i64 b]) []):
 aM Tryz.prog 191 [] [.agg [.lst 3 false K,.int .i64 v,.int .i64 m]] (.agg [.lst 3 false K,.int .i64 v,.int .i64 m]) []:=by
 refine aE (ob0:= []) [] Tryz.func191 rfl rfl rfl rfl ?_;refine Wx ?_;refine Lp (λi:Nat=>i<=K.length) (λi=> [(11,.int .i64 (i:Int))]) (λi=> [(0,.box [.sl 2 0 i,.int .i64 v,.int .i64 m]),(2,.row 3 (K.take i))]) (λi=>K.length-i) 0 (zG _) ?_ ?_
 ·exact Vr [_,_,none]
 intro i B;have C:(K.take i).length=i:=by rw [zI];omega
 refine Wx ?_;refine gE (λb=>?_) (λb=>?_)
 ·have b:i<K.length:=by omega
  obtain⟨k0,k1,k2,x,y,hg,e⟩:=f i b;have j:K.take (i+1)=K.take i++ [[.lst k0 k1 k2,.int .i64 x,.int .i64 y]]:=by rw [aEV [] b,hg]
  refine Wx ?_;refine Le (i+1) (hv:=?_);simp only [j];exact Vr [_,_,_]
 obtain rfl:i=K.length:=by omega
 exact Wz
theorem bGY(E:dJ):∀h a,aM Tryz.prog 191 [] [.agg (sub E h a)] (.agg (sub E h a)) []
 |0,a=>bA2 _ _
 |h+1,a=>by
  rw [sub]
  cases gU E a (4^(h+1)) with
  |true=>exact bA2 0 0
  |false=> refine bK3 _ _ _ (Nat.le_refl 4) λi hi=>?_;have hi:i<4:=hi;have hg:=fT E h a i hi;obtain⟨k0,k1,k2,v,m,e⟩:=bBD E h (a+i*4^h);have f:=bGY E h (a+i*4^h);rw [e] at f hg;exact⟨k0,k1,k2,v,m,hg,f⟩
def noZ(z:Zn):Zn:=⟨z.first,z.size,z.min,z.low,z.high,z.free,false⟩
def Dc.x(c:Dc):Dc:=⟨c.fl,c.fr,c.zo.map noZ,c.gr,c.ls,c.ck,c.pt⟩
def Dc.b(c:Dc):List Sk.Obj:= [.box [.sl 1 0 c.fl.length,.sl 2 0 c.fr.length,.lst 6 false (aK c.zo),.lst 3 false (aQ c.gr),.sl 3 0 c.ls.length,.sl 4 0 c.ck.length,.lst 5 false (aN c.pt)],.row 15 (aX c.fl),.row 9 (aO c.fr),.row 3 (aU c.ls),.row 1 (aB c.ck)]
theorem aPO {α:Type} {l:List α} {i:Nat} {x d:α} (h:i<l.length)(e:x=l.getD i d):l.set i x=l:=by
 subst e;apply List.ext_getElem?;intro j;rw [List.getElem?_set];split
 ·rename_i e;subst e;simp [zF,h]
 ·rfl
theorem fL.free_ {l:List Zn} (h:fL l)(j:Nat)(e:j<l.length):(l.getD j gK).free.length*8<=140737488355328:=by have :=h.free (l.getD j gK) (by rw [aF8 l j e];exact zS e);omega
theorem bDS(c:Dc)(h:Ok c):aM Tryz.prog 82 [] [.agg c.c] (.ptr 0 0 0) c.x.b:=by
 have m:=h.sm;have g1:=m.fl;have g2:=m.fr;have g3:=m.gr;have g4:=m.ls;have g5:=m.ck;have g6:=(aCU h.zone).2;have g7:=h.ptl;have H:=aZZ (aX c.fl) false (by rw [cP];omega);have J:=bA0 (aO c.fr) false (by rw [bX];omega);have K:=aTH (aK c.zo) false (by rw [aF];omega);have M:=aTI (aQ c.gr) false (by rw [aL];omega);have N:=bA1 (aU c.ls) false (by rw [bW];omega);have G:=sV (aB c.ck) false (by rw [aA];omega);have O:=aOT (aN c.pt) false (by rw [bT];omega);rw [cP] at H
 rw [bX] at J;rw [aF] at K;rw [aL] at M;rw [bW] at N;rw [aA] at G;rw [bT] at O;unfold Dc.b Dc.x;dsimp only;obtain⟨R,C⟩:∃R:Nat->List (List V),∀i,R i=aX c.fl:=⟨λ_=>aX c.fl,λ_=>rfl⟩;obtain⟨S,hS⟩:∃S:Nat->List (List V),∀i,S i=aU c.ls:=⟨λ_=>aU c.ls,λ_=>rfl⟩;refine aE (ob0:= []) [] Tryz.func82 rfl rfl rfl rfl ?_;refine Wx ?_;refine Lp (λi:Nat=>i<=c.fl.length) (λi=> [(33,.int .i64 (i:Int))]) (λi=> [(1,.row 15 (R i))]) (λi=>c.fl.length-i) 0 (zG _) ?_ ?_
 ·simp only [C];exact Vr [some 0,some 2080,some 2128,some 2176,some 2224,some 2272,some 2320,some 2368,some 2400]
 intro i hi;have T:(R i).length=c.fl.length:=by rw [C,cP]
 refine Wx ?_;refine gE (λb=>?_) (λb=>?_)
 ·have b:i<c.fl.length:=by omega
  have hg:=aAA b;obtain⟨k0,k1,k2,k3,F,B⟩:=Df.cells (h.file i b).E;have Q:=bGY (c.fl.getD i aZ).E (hgt (c.fl.getD i aZ).E) 0;unfold can at B;rw [(List.cons.inj B).2] at Q;have f:R (i+1)=(R i).set i (aS 15 ((aX c.fl).getD i []) 3 [.lst k0 k1 k2,.int .i64 k3,.int .i64 (oS (c.fl.getD i aZ).E 0 (4^hgt (c.fl.getD i aZ).E):Nat)]):=by rw [C,C];refine(aPO (d:= []) (by rw [cP];exact b) ?_).symm;rw [hg,F];rfl
  rw [<-C i] at hg;rw [<-C i,hg] at f;rw [F] at hg f;refine Wx ?_;refine Le (i+1) (hv:=?_);simp only [f];exact Vr [some 0,some 1,some 2,some 3,some 4,some 5,some 6,some 7,some 8]
 clear b T;refine Wx ?_;refine Lp (λi:Nat=>i<=c.zo.length) (λi=> [(54,.int .i64 (i:Int))]) (λi=> [(3,.row 6 (aK (mO noZ c.zo i)))]) (λi=>c.zo.length-i) 0 (zG _) ?_ ?_
 ·rw [vO];exact Vr [some 0,some 1,some 2,some 3,some 4,some 5,some 6,some 7,some 8]
 intro j hj;have D:=oH noZ c.zo j;refine Wx ?_;refine gE (λb=>?_) (λb=>?_)
 ·have b:j<c.zo.length:=by omega
  have hg:=fC (mO noZ c.zo j) j (by rw [D];exact b);have e:(mO noZ c.zo j)[j]'(by rw [D];exact b)=c.zo.getD j gK:=by rw [<-uH noZ c.zo j gK b];simp [zF,b]
  rw [e] at hg;have hf:=(gO h.zone).free_ j b;have f:=qV noZ c.zo j gK b;have Z:(noZ (c.zo.getD j gK)).c=aS 6 (c.zo.getD j gK).c 5 [.lst 1 false (aB (c.zo.getD j gK).free)]:=rfl;have Y:aK (mO noZ c.zo (j+1))=(aK (mO noZ c.zo j)).set j (aS 6 (c.zo.getD j gK).c 5 [.lst 1 false (aB (c.zo.getD j gK).free)]):=by rw [f,<-Z];unfold aK;rw [List.map_set]
  generalize c.zo.getD j gK=z at *;obtain⟨z1,z2,z3,z4,z5,z6,z7⟩:=z;have aa:=aAQ (aB z6) z7 (by rw [aA];exact hf);refine Wx ?_;refine Le (j+1) (hv:=?_);simp only [Y];exact Vr [some 0,some 1,some 2,some 3,some 4,some 5,some 6,some 7,some 8]
 obtain rfl:j=c.zo.length:=by omega
 rw [aBO];clear b D;refine Wx ?_;refine Lp (λi:Nat=>i<=c.ls.length) (λi=> [(73,.int .i64 (i:Int))]) (λi=> [(5,.row 3 (S i))]) (λi=>c.ls.length-i) 0 (zG _) ?_ ?_
 ·simp only [hS];exact Vr [some 0,some 1,some 2,some 3,some 4,some 5,some 6,some 7,some 8]
 intro k hk;have ab:(S k).length=c.ls.length:=by rw [hS,bW]
 refine Wx ?_;refine gE (λb=>?_) (λb=>?_)
 ·have b:k<c.ls.length:=by omega
  have hg:=eC c.ls k b;have W:=h.smL k;have f:S (k+1)=(S k).set k (aS 3 ((aU c.ls).getD k []) 0 (c.ls.getD k l0).c):=by rw [hS,hS];refine(aPO (d:= []) (by rw [bW];exact b) ?_).symm;rw [hg];rfl
  have ac:(S k).getD k []=(c.ls.getD k l0).c:=by rw [hS];exact hg
  rw [hg] at f;generalize c.ls.getD k l0=l at *;obtain⟨A,I,Rf⟩:=l;have k1:=aAQ (aB A) false (by rw [aA];have :=W.a;dsimp only at this;omega);have k2:=aAQ (aB I) false (by rw [aA];have :=W.i;dsimp only at this;omega);have k3:=aAQ (aB Rf) false (by rw [aA];have :=W.r;dsimp only at this;omega);refine Wx ?_;refine Le (k+1) (hv:=?_);simp only [f];exact Vr [some 0,some 1,some 2,some 3,some 4,some 5,some 6,some 7,some 8]
 refine Wx ?_;rw [<-C i,<-hS k];refine pR.mk ?_
 conv=>whnf
 refine⟨[some 9,some 1,some 2,some 5,some 6],?_,rfl,?_,rfl,?_⟩
 all_goals exact Cz
theorem aZT(c:Dc)(m:Nat)(hm:m<c.fr.length)(e:c.fr.length<=64):aM Tryz.prog 147 c.b [.ptr 0 0 0,.int .i64 ((m+1:Nat):Int)] (.ptr 2 m 0) c.b:=by refine aE (ob0:=c.b) [] Tryz.func147 rfl rfl rfl rfl ?_;exact Wo5
theorem bOU(c:Dc)(m:Nat)(u:Us)(hm:m<c.fr.length)(z:c.fr.getD m none=some u)(B:u.file<c.fl.length)(j:c.fr.length<=64):aM Tryz.prog 156 c.b [.ptr 0 0 0,.int .i64 ((m+1:Nat):Int)] (.ptr 1 u.file 0) c.b:=by have e:=aZT c m hm j;have f:=qA hm z;refine aE (ob0:=c.b) [] Tryz.func156 rfl rfl rfl rfl ?_;exact Wo5
theorem bTQ(c:Dc)(m:Nat)(u:Us)(f:m<c.fr.length)(h2:c.fr.getD m none=some u)(F:c.fr.length<=64)(G:u.ten<c.ls.length)(E:dM (c.ls.getD u.ten l0)):
 aM Tryz.prog 97 c.b [.ptr 0 0 0,.int .i64 ((m+1:Nat):Int)] (.tup []) (c.acc m u.ten).b:=by
 have j:=aZT c m f F;have D:=qA f h2;have C:=eC c.ls u.ten G;have z:=bH0 (c.ls.getD u.ten l0) ((m+1:Nat):Int) E;have e:∀x:Ls,(aU c.ls).set u.ten (aS 3 (c.ls.getD u.ten l0).c 0 x.c)=aU (c.ls.set u.ten x):=λx=>iE c.ls u.ten x
 have B:(c.acc m u.ten).b=[.box [.sl 1 0 c.fl.length,.sl 2 0 c.fr.length,.lst 6 false (aK c.zo),.lst 3 false (aQ c.gr),.sl 3 0 c.ls.length,.sl 4 0 c.ck.length,.lst 5 false (aN c.pt)],.row 15 (aX c.fl),.row 9 (aO c.fr),.row 3 (aU (c.ls.set u.ten (nH (c.ls.getD u.ten l0) ((m+1:Nat):Int)).1)),.row 1 (aB c.ck)]:=by unfold Dc.b Dc.acc;dsimp only;rw [zA]
 rw [B,<-e];generalize(nH (c.ls.getD u.ten l0) ((m+1:Nat):Int)).2=H at *;generalize(nH (c.ls.getD u.ten l0) ((m+1:Nat):Int)).1=J at *;generalize c.ls.getD u.ten l0=l at *;refine aE (ob0:=c.b) [] Tryz.func97 rfl rfl rfl rfl ?_;exact Wo5
def aGN(a b:Int):Int:=bif decide (a<b) then -1 else bif decide (b<a) then 1 else 0
theorem aZP(a b:Int):aM Tryz.prog 104 [] [.int .i64 a,.int .i64 b] (.int .i64 (aGN a b)) []:=by
 have k1:=aTK a;have k2:=aTK b;unfold aGN;refine aE (ob0:= []) [] Tryz.func104 rfl rfl rfl rfl ?_;refine Wy ?_;refine gE (λh=>?_) (λh=>?_)
 ·rw [zdt h,zct];exact Wz
 ·rw [zdf h,zcf];refine Wy ?_;refine gE (λh2=>?_) (λh2=>?_)
  ·rw [zdt h2,zct];exact Wz
  ·rw [zdf h2,zcf];exact Wz
def orI(x y:Int):Int:=bif x==0 then y else x
theorem bQE(x y:Int):aM Tryz.prog 328 [.row 1 (aB [x,y])] [.sl 0 0 2] (.int .i64 (orI x y)) [.row 1 (aB [x,y])]:=by
 have f:(aB [x,y]).getD 0 []=[.int .i64 x]:=rfl;have j:(aB [x,y]).getD 1 []=[.int .i64 y]:=rfl;have C:(aB [x,y]).length=2:=rfl;unfold orI;generalize aB [x,y]=R at *;refine aE (ob0:= [.row 1 R]) [] Tryz.func328 rfl rfl rfl rfl ?_;refine Wy ?_;refine Lp (λi:Nat=>i<=2/\(1<=i->x=0)/\(2<=i->y=0)) (λi=> [(8,.int .i64 (i:Int))]) (λi=> []) (λi=>2-i) 0 ⟨by omega,by omega,by omega⟩ ?_ ?_
 ·exact Vr [_]
 rintro i ⟨B,e,z⟩;have m:i=0\/i=1\/i=2:=by omega
 rcases m with rfl |rfl |rfl
 ·clear j;refine Wy ?_;refine bCO (λh=>?_) (λh=>?_)
  ·rw [zbn.2 h];exact Wo
  ·refine Wy ?_;refine Le 1 (hI:=⟨by omega,λ_=>h,by omega⟩) (hv:=?_);exact Vr [_]
 ·clear f;rw [zbe.2 (e (by omega)),zct];refine Wy ?_;refine bCO (λh=>?_) (λh=>?_)
  ·exact Wo
  ·refine Wy ?_;refine Le 2 (hI:=⟨by omega,λ_=>e (by omega),λ_=>h⟩) (hv:=?_);exact Vr [_]
 ·rw [zbe.2 (e (by omega)),zct,z (by omega)];exact Wo
def bCK(a b:Pt):Int:=orI (aGN a.proc b.proc) (aGN a.page b.page)
theorem bPR(a b:Pt):aM Tryz.prog 271 [] [.agg a.c,.agg b.c] (.int .i64 (bCK a b)) []:=by have k1:=aZP a.proc b.proc;have k2:=aZP a.page b.page;have k3:=bQE (aGN a.proc b.proc) (aGN a.page b.page);refine aE (ob0:= []) [] Tryz.func271 rfl rfl rfl rfl ?_;exact Wz
theorem bPQ(a:Pt):aM Tryz.prog 269 [] [.agg a.c] (.bool (eN a)) []:=by unfold eN;refine aE (ob0:= []) [] Tryz.func269 rfl rfl rfl rfl ?_;exact Wz
theorem aVE(a b:Pt):eX a b=decide (bCK a b<0):=by
 unfold eX bCK orI aGN
 by_cases e:a.proc<b.proc
 ·rw [zdt e];rfl
 ·rw [zdf e,zcf,zcf]
  by_cases h2:b.proc<a.proc
  ·rw [zdt h2,show(a.proc==b.proc)=false from zbn.2 (by omega)];rfl
  ·rw [zdf h2,show(a.proc==b.proc)=true from zbe.2 (by omega)];show decide (a.page<b.page)=decide ((bif decide (a.page<b.page) then(-1:Int) else bif decide (b.page<a.page) then 1 else 0)<0)
   by_cases f:a.page<b.page
   ·rw [zdt f];rfl
   ·rw [zdf f,zcf];cases decide (b.page<a.page)<;> rfl
theorem bH9(l:List Pt)(H:l.length<=100000):aM Tryz.prog 232 [] [.lst 5 false (aN l)] (.bool (kU l)) []:=by
 refine aE (ob0:= []) [] Tryz.func232 rfl rfl rfl rfl ?_;refine Wy ?_;refine Lp (λi:Nat=>i<=l.length/\bD (aAK l) i=true) (λi=> [(7,.int .i64 (i:Int))]) (λi=> []) (λi=>l.length-i) 0 ⟨zG _,rfl⟩ ?_ ?_
 ·exact Vr []
 rintro i ⟨G,B⟩;refine Wy ?_;refine gE (λb=>?_) (λb=>?_)
 ·have b:i<l.length:=by omega
  have hg:=gH l i b;have f:=gH l (i-1) (by omega);have z:=bPQ (l.getD i p0);have F:=bPR (l.getD (i-1) p0) (l.getD i p0);have e:aAK l i=bif !eN (l.getD i p0) then true else bif decide (0< (i:Int)) then !eX (l.getD (i-1) p0) (l.getD i p0) else false:=rfl
  have m:aAK l i=true->kU l=false:=λh=>eM b h;have j:aAK l i=false->bD (aAK l) (i+1)=true:=λh=>by rw [bD,B,h];rfl
  rw [aVE] at e;generalize l.getD i p0=x at *;generalize l.getD (i-1) p0=y at *;generalize bCK y x=w at *
  cases D:eN x with
  |false=>
   rw [D] at z e;rw [m e]
   by_cases C:i=0
   ·subst C;refine Wx2 hg f ?_;exact Lz
   ·refine Wx2 hg f ?_;exact Lz
  |true=>
   rw [D,Bool.not_true,zcf] at e;rw [D] at z
   by_cases C:i=0
   ·subst C;rw [zdf (show ¬(0:Int)< ((0:Nat):Int) by omega),zcf] at e;refine Wx2 hg f ?_;refine Le 1 (hI:=⟨by omega,j e⟩) (hv:=?_);exact Vr []
   ·rw [zdt (show(0:Int)< (i:Int) by omega),zct] at e
    by_cases E:w<0
    ·rw [zdt E,Bool.not_true] at e;refine Wx2 hg f ?_;refine Le (i+1) (hI:=⟨by omega,j e⟩) (hv:=?_);exact Vr []
    ·rw [zdf E,Bool.not_false] at e;rw [m e];refine Wx2 hg f ?_;exact Lz
 obtain rfl:i=l.length:=by omega
 have B:kU l=true:=B;rw [B];exact Wz
theorem bGE(l:List Pt)(i:Nat)(h:i<l.length):(aN l).getD i []=(l[i]'h).c:=by rw [gH l i h,aO5 l i h]
theorem bQO(l:List Pt)(t:Bool)(g:FuncId)(f:List V)(p:Pt->Bool)(hg:jL Tryz.prog g)(m:f.all cN=true)(G:∀x∈l,aM Tryz.prog g [] (.agg x.c::f) (.bool (p x)) [])(J:(l.length:Int)<2^62):
 aM Tryz.prog 360 [] [.lst 5 t (aN l),.fn g f] (.int .i64 (eJ p l)) []:=by
 refine cK Tryz.func360 ?_;generalize C:eJ p l=q;refine Wk ?_;rw [bT];refine⟨Nat,λi=>i<=l.length/\∀j (B:j<i) (h:j<l.length),p l[j]=false,λi=>⟨[(0,⟨[],true,.lst 5 t (aN l)⟩),(1,⟨[],true,.fn g f⟩),(4,⟨[],true,.int .i64 0⟩),(7,⟨[],true,.int .i64 (l.length:Int)⟩),(8,⟨[],true,.int .i64 (i:Int)⟩)],[],0⟩,λi=>l.length-i,⟨0,⟨by omega,λj B=>by omega⟩,?_⟩,λi E=>?_⟩
 ·refine bU [] rfl rfl ?_ rfl ?_ rfl ?_
  repeat' (first |exact trivial |rfl |exact .inl rfl |exact .inr rfl |exact id |exact zbc |apply And.intro)
  exact lT m
 obtain⟨F,z⟩:=E;refine Wk ?_;refine aC (λh2=>?_) (λh2=>?_)<;> try simp only [zL,zJ,zQ,zN,Bool.not_not] at h2
 ·have h2:i<l.length:=by simp at h2;omega
  refine Wk ?_;refine aG (⟨rfl,by omega,by rw [bT];omega⟩) ?_;rw [zR,bGE l i h2];refine Wk ?_;refine⟨hg,.inl (aRZ m rfl (G _ (zS h2)) rfl ?_)⟩;refine Wk ?_;refine aC (λD=>?_) (λD=>?_)<;> try simp only [zL,zJ,zQ,zN,Bool.not_not] at D
  ·have :q=i:=by rw [<-C];exact rZ _ l i h2 (λj B=>z j B (by omega)) D
   subst this;refine Wk ?_
   try subst C
   exact Lf
  refine Wk ?_;rw [aP (n:=(i:Int)+1) (by omega) (by omega),show((i:Int)+1)=((i+1:Nat):Int) by omega];refine⟨i+1,⟨by omega,λj B h=>?_⟩,?_,by show l.length- (i+1)<l.length-i;omega⟩
  ·by_cases e:j=i
   ·subst e;exact D
   ·exact z j (by omega) h
  refine bU [] rfl rfl ?_ rfl ?_ rfl ?_
  repeat' (first |exact trivial |rfl |exact .inl rfl |exact .inr rfl |exact id |exact zbc |apply And.intro)
  exact lT m
 have h2:i=l.length:=by simp at h2;omega
 have :q= -1:=by rw [<-C];exact lU _ l λy H=>by obtain⟨j,B,rfl⟩:=zM H;exact z j (by omega) B
 subst this;refine Wk ?_
 try subst C
 exact Lf
theorem bHN(x:Pt)(f:Int):aM Tryz.prog 317 [] [.agg x.c,.rp 1 [.int .i64 f] 0] (.bool (x.frame==f)) []:=by refine cK Tryz.func317 ?_;refine Wk ?_;exact Lf
theorem call317:jL Tryz.prog 317:=⟨_,Tryz.func317,rfl,rfl⟩
def flt(f:Int)(l:List Pt):List Pt:=l.filter (pX f)
structure aF1(l:List Pt)(x:Int)(j:Nat)(R:List Pt):Prop where
 le:j<=l.length
 len:R.length=l.length
 kept:R.take (flt x (l.take j)).length=flt x (l.take j)
 rest:R.drop j=l.drop j
theorem aGS {R l:List Pt} {j:Nat} (h:R.drop j=l.drop j):R.drop (j+1)=l.drop (j+1):=by rw [<-List.drop_drop,<-List.drop_drop,h]
theorem aBC {l:List Pt} {j:Nat} {x:Int} (e:j<l.length):flt x (l.take (j+1))=flt x (l.take j)++(bif pX x l[j] then [l[j]] else []):=by
 unfold flt;rw [zE e,List.filter_append]
 cases h:pX x l[j] with
 |true=>rw [List.filter_cons_of_pos h];rfl
 |false=>rw [List.filter_cons_of_neg (by rw [h];decide)];rfl
theorem aSR(l:List Pt)(x:Int)(j:Nat):(flt x (l.take j)).length<=j:=by have :=zK (pX x) (l.take j);have :=List.length_take_le j l;unfold flt;omega
theorem aF1.getj {l:List Pt} {x:Int} {j:Nat} {R:List Pt} (h:aF1 l x j R)(e:j<l.length):R[j]'(by rw [h.len];exact e)=l[j]:=by
 have f:(R.drop j)[0]? =(l.drop j)[0]? :=by rw [h.rest]
 rw [zO,zO,Nat.add_zero,zH e,zH (by rw [h.len];exact e)] at f;exact zsi f
theorem aF1.skip {l:List Pt} {x:Int} {j:Nat} {R:List Pt} (h:aF1 l x j R)(f:j<l.length)(m:pX x l[j]=false):aF1 l x (j+1) R:=by have e:=aBC (x:=x) f;rw [m,zcf,zD] at e;exact⟨by omega,h.len,by rw [e];exact h.kept,aGS h.rest⟩
theorem aF1.keep {l:List Pt} {x:Int} {j:Nat} {R:List Pt} (h:aF1 l x j R)(B:j<l.length)(C:pX x l[j]=true):aF1 l x (j+1) (R.set (flt x (l.take j)).length l[j]):=by
 have e:=aBC (x:=x) B;rw [C,zct] at e;have f:=aSR l x j;have m:=h.kept;have z:=h.len;refine⟨by omega,by rw [zA];exact h.len,?_,?_⟩
 ·rw [e,zP,List.length_singleton];generalize flt x (l.take j)=K at m f⊢;rw [zE (by rw [zA];omega),List.getElem_set_self,List.take_set_of_le (Nat.le_refl _),m]
 ·rw [List.drop_set_of_lt (by omega)];exact aGS h.rest
theorem aF1.start {l:List Pt} {x:Int} {n:Nat} (D:n<l.length)(E:pX x l[n]=false)(B:∀j (z:j<n),pX x (l[j]'(by omega))=true):aF1 l x (n+1) l/\(flt x (l.take (n+1))).length=n:=by
 have e:=aBC (x:=x) D;rw [E,zcf,zD] at e;have f:flt x (l.take n)=l.take n:=List.filter_eq_self.2 λy C=>by obtain⟨j,z,rfl⟩:=zM C;rw [zI] at z;rw [List.getElem_take];exact B j (by omega)
 have m:(l.take n).length=n:=by rw [zI];omega
 rw [e,f];refine⟨⟨by omega,rfl,?_,rfl⟩,m⟩;rw [e,f,m]
theorem aBQ(x:Int)(p:Pt):pX x p= !(p.frame==x):=rfl
theorem bQL(l:List Pt)(x:Int)(hl:l.length<=100000):aM Tryz.prog 349 [.row 5 (aN l),.box [.int .i64 x]] [.sl 0 0 l.length,.fn 317 [.ptr 1 0 0]] (.sl 0 0 (flt x l).length)
 [.row 5 (aN (flt x l++zC (l.length- (flt x l).length) p0)),.box [.int .i64 x]]:=by
 generalize T:flt x l=q;have J:=bQO l false 317 [.rp 1 [.int .i64 x] 0] (λy=>y.frame==x) call317 rfl (λy _=>bHN y x) (by omega);have F:((aN l).drop 0).take l.length=aN l:=dB (bT l);have H:aM Tryz.prog 360 [] [.lst 5 false (((aN l).drop 0).take l.length),.fn 317 [.rp 1 [.int .i64 x] 0]] (.int .i64 (eJ (λy:Pt=>y.frame==x) l)) []:=by rw [F];exact J
 have ab:=(aLH (λy:Pt=>y.frame==x) l);refine aE (ob0:= [.row 5 (aN l),.box [.int .i64 x]]) [] Tryz.func349 rfl rfl rfl rfl ?_;refine Wy ?_;refine .inl ⟨_,λ_=>⟨?_,H⟩,.inr rfl,?_⟩
 ·intro v B;have B:v∈ [V.sl 0 0 l.length,V.fn 317 [V.ptr 1 0 0]]:=B;rcases List.mem_cons.1 B with rfl |B
  ·show 0+l.length<=(aN l).length;rw [bT];omega
  ·obtain rfl:=List.mem_singleton.1 B;intro c hc;obtain rfl:=List.mem_singleton.1 hc;exact⟨rfl,rfl⟩
 refine Wy ?_;refine bNJ (λh1=>?_) (λh1=>?_)
 ·have W:flt x l=l:=List.filter_eq_self.2 λy hy=>by have :=(uE (λy:Pt=>y.frame==x) l).1 (by omega) y hy;rw [aBQ,this];rfl
  rw [W] at T;subst T;rw [Nat.sub_self,List.replicate_zero,zD];exact Wo2
 obtain⟨n,D,Q,hx,hb⟩:=qQ (λy:Pt=>y.frame==x) l (by omega);rw [Q];obtain⟨hD,N⟩:=aF1.start (x:=x) D (by rw [aBQ,hx];rfl) (λj hj=>by rw [aBQ,hb j hj];rfl);clear h1 H J F;refine Wy ?_;refine Lp (α:=Nat×List Pt) (λp=>aF1 l x p.1 p.2) (λp=> [(5,.int .i64 ((flt x (l.take p.1)).length:Int)),(6,.int .i64 (p.1:Int))]) (λp=> [(0,.row 5 (aN p.2))]) (λp=>l.length-p.1) (n+1,l) hD ?_ ?_
 ·simp only [N];exact Vr [_,_]
 rintro ⟨j,R⟩ E;have ac:=E.le;have aa:=E.len;have Z:=aSR l x j;dsimp only at *;refine Wy ?_;refine gE (λh2=>?_) (λh2=>?_)
 ·have h2:j<l.length:=by omega
  have O:=E.getj h2;have hg:=bGE R j (by omega);rw [O] at hg;have m:=λh=>E.skip h2 h;have f:=λh=>E.keep h2 h;have M:=aBC (x:=x) h2;have G:=bHN l[j] x;have ad:=aBQ x l[j];have Y:∀(K:Nat) (z:Pt),aN (R.set K z)=(aN R).set K z.c:=λK z=>(nP R K z).symm;generalize l[j]=z at *;refine Wy ?_;refine⟨call317,.inl ⟨.bool (z.frame==x),λ_=>⟨?_,G⟩,.inr rfl,?_⟩⟩
  ·intro v B;have B:v∈ [V.agg z.c,V.ptr 1 0 0]:=B;rcases List.mem_cons.1 B with rfl |B
   ·exact aTT (show aWF (V.agg z.c)=true from rfl)
   ·obtain rfl:=List.mem_singleton.1 B;exact⟨rfl,rfl⟩
  refine Wy ?_;refine aC (λh3=>?_) (λh3=>?_)
  ·have D:pX x z=true:=h3;have f:=f D;rw [D,zct] at M;generalize flt x (l.take j)=K at *;refine Wy ?_;refine Le (j+1,R.set K.length z) (hI:=f) (hv:=?_);simp only [M,Y];exact Vr [_,_]
  ·have D:pX x z=false:=h3;have m:=m D;rw [D,zcf,zD] at M;refine Wy ?_;refine Le (j+1,R) (hI:=m) (hv:=?_);simp only [M];exact Vr [_,_]
 have h2:j=l.length:=by omega
 subst h2;have C:=E.kept;rw [List.take_length,T] at C Z⊢;refine Wy ?_;refine pR.mk ?_
 conv=>whnf
 refine⟨[some 0,some 1],?_,rfl,?_,rfl,?_⟩
 ·have e:List.take (0+((q.length:Int)).toNat) (aN R)++zC (l.length-q.length) p0.c++List.drop (0+(q.length:Int).toNat+(l.length-q.length)) (aN R)=aN (q++zC (l.length-q.length) p0):=by rw [zR,Nat.zero_add,List.drop_of_length_le (by rw [bT];omega),zD];unfold aN;rw [<-List.map_take,C,List.map_append,List.map_replicate]
  rw [<-e];exact Cz
 ·exact Cz
 ·exact Cz
theorem bD3(l:List Pt)(x:Int):(flt x l).length<=l.length:=zK _ _
theorem bQA(l:List Pt)(x:Int)(m:l.length<=100000)(B:kU l=true):aM Tryz.prog 316 [.box [.int .i64 x]] [.lst 5 false (aN l),.fn 317 [.ptr 0 0 0]] (.lst 5 false (aN (flt x l))) [.box [.int .i64 x]]:=by
 have f:=aOT (aN l) false (by rw [bT];omega);have j:=bH9 l m;have z:=bQL l x m;have C:=bD3 l x;rw [bT] at f;rw [B] at j;have e:List.take (flt x l).length (List.drop 0 (aN (flt x l++zC (l.length- (flt x l).length) p0)))=aN (flt x l):=by unfold aN;rw [List.drop_zero,List.map_append,List.take_append_of_le_length (by rw [List.length_map];omega),List.take_of_length_le (by rw [List.length_map];omega)]
 have E:0+(flt x l).length<=(aN (flt x l++zC (l.length- (flt x l).length) p0)).length:=by rw [bT,zP];omega
 generalize aN (flt x l++zC (l.length- (flt x l).length) p0)=D at *;generalize F:flt x l=q at *;refine aE (ob0:= [.box [.int .i64 x]]) [] Tryz.func316 rfl rfl rfl rfl ?_;refine Wy ?_;rw [<-e];refine pR.mk ?_
 conv=>whnf
 refine⟨[some 0],?_,rfl,?_,rfl,?_⟩
 all_goals exact Cz
theorem bPH(l:List Pt)(x:Int)(m:l.length<=100000)(f:kU l=true):aM Tryz.prog 244 [] [.lst 5 false (aN l),.int .i64 x] (.lst 5 false (aN (oV l x))) []:=by
 have j:=bQA l x m f;have e:oV l x=flt x l:=by unfold oV;rw [f];rfl
 rw [e];generalize flt x l=q at *;refine aE (ob0:= []) [] Tryz.func244 rfl rfl rfl rfl ?_;exact Wz
theorem bJP(e:List (Option Us))(m:Nat)(hm:m<e.length)(D:e.length<=64)(Z G P f R3 j:List (List V))(z C B:Nat):
 aM Tryz.prog 147 [.box [.sl 1 0 z,.sl 2 0 e.length,.lst 6 false Z,.lst 3 false G,.sl 3 0 C,.sl 4 0 B,.lst 5 false P],.row 15 f,.row 9 (aO e),.row 3 R3,.row 1 j] [.ptr 0 0 0,.int .i64 ((m+1:Nat):Int)] (.ptr 2 m 0)
  [.box [.sl 1 0 z,.sl 2 0 e.length,.lst 6 false Z,.lst 3 false G,.sl 3 0 C,.sl 4 0 B,.lst 5 false P],.row 15 f,.row 9 (aO e),.row 3 R3,.row 1 j]:=by
 refine aE (ob0:= [.box [.sl 1 0 z,.sl 2 0 e.length,.lst 6 false Z,.lst 3 false G,.sl 3 0 C,.sl 4 0 B,.lst 5 false P],.row 15 f,.row 9 (aO e),.row 3 R3,.row 1 j]) [] Tryz.func147 rfl rfl rfl rfl ?_;exact Wo5
def Dc.goneP(c:Dc)(n:Nat)(u:Us)(v:Int):Dc:= ⟨c.fl.set u.file (iG (c.fl.getD u.file aZ) (eH (c.fl.getD u.file aZ).E u.page (v,0))),c.fr.set n none,(eD (c.zo.map gM) c.zo ((n+1:Nat):Int)).1,(iK c.gr u.ten).1,c.ls.set u.ten (nF (c.ls.getD u.ten l0) ((n+1:Nat):Int)).1,c.ck,oV c.pt ((n+1:Nat):Int)⟩
theorem bOT(c:Dc)(h:Ok c)(m:Nat)(u:Us)(C:m<c.fr.length)(h2:c.fr.getD m none=some u)(v:Int):
 aM Tryz.prog 153 c.b [.ptr 0 0 0,.int .i64 ((m+1:Nat):Int),.int .i64 v] (.tup []) (c.goneP m u v).b:=by
 have N:=h.nr;have O:=h.use m u C h2;have hg:=h.good C h2;have G:=O.file;have ht:u.ten<c.ls.length:=by rw [h.nl];exact O.ten
 have R:=aZT c m C N;have T:=bOU c m u C h2 G N;have ac:=qA C h2;have M:=aAA G;have ab:=eC c.ls u.ten ht;have J:=h.file _ G;have D:bI (eH (c.fl.getD u.file aZ).E u.page (v,0)):=J.E.set (Nat.zero_lt_succ _) (λ_=>rfl);have H:=bOQ J.E J.sup u.page hg.page v;have W:=bPH c.pt ((m+1:Nat):Int) h.ptl h.pt;have Y:=bHA (c.ls.getD u.ten l0) ((m+1:Nat):Int) (h.smL _);have Z:=bPI c.gr u.ten O.ten h.gr;have aa:=bHB c.zo false ((m+1:Nat):Int) h.smZ
 have e:=aC4 c.fl u.file _ G J.E D;rw [iD c.fl u.file G] at e;have f:∀x:Ls,(aU c.ls).set u.ten (aS 3 (c.ls.getD u.ten l0).c 0 x.c)=aU (c.ls.set u.ten x):=λx=>iE c.ls u.ten x;have z:(aO c.fr).set m (aS 9 u.c 0 fre.c)=aO (c.fr.set m none):=by have :aS 9 u.c 0 fre.c=fre.c:=rfl;rw [this];unfold aO;rw [List.map_set];rfl
 obtain⟨k0,k1,k2,k3,K,F⟩:=Df.cells J.E;obtain⟨q0,q1,q2,q3,j⟩:=cH D;rw [K] at M e;rw [j] at e;rw [F,j] at H
 have Q:(c.goneP m u v).b=[.box [.sl 1 0 c.fl.length,.sl 2 0 c.fr.length,.lst 6 false (aK (eD (c.zo.map gM) c.zo ((m+1:Nat):Int)).1),.lst 3 false (aQ (iK c.gr u.ten).1),.sl 3 0 c.ls.length,.sl 4 0 c.ck.length,.lst 5 false (aN (oV c.pt ((m+1:Nat):Int)))],.row 15 (aX (c.fl.set u.file (iG (c.fl.getD u.file aZ) (eH (c.fl.getD u.file aZ).E u.page (v,0))))),.row 9 (aO (c.fr.set m none)),.row 3 (aU (c.ls.set u.ten (nF (c.ls.getD u.ten l0) ((m+1:Nat):Int)).1)),.row 1 (aB c.ck)]:=by unfold Dc.b Dc.goneP;dsimp only;rw [zA,zA,zA]
 rw [Q,<-e,<-z,<-f];generalize(eD (c.zo.map gM) c.zo ((m+1:Nat):Int)).1=z2 at *;generalize(eD (c.zo.map gM) c.zo ((m+1:Nat):Int)).2=ze at *;generalize(iK c.gr u.ten).1=g2 at *;generalize(iK c.gr u.ten).2=ge at *;generalize oV c.pt ((m+1:Nat):Int)=p2 at *;generalize(nF (c.ls.getD u.ten l0) ((m+1:Nat):Int)).2=le at *;generalize(nF (c.ls.getD u.ten l0) ((m+1:Nat):Int)).1=l2 at *
 have B:=bJP c.fr m C N (aK z2) (aQ g2) (aN p2) (aX (c.fl.set u.file (iG (c.fl.getD u.file aZ) (eH (c.fl.getD u.file aZ).E u.page (v,0))))) (aU (c.ls.set u.ten l2)) (aB c.ck) c.fl.length c.ls.length c.ck.length;rw [<-e,<-f] at B;clear Q e f z;refine aE (ob0:=c.b) [] Tryz.func153 rfl rfl rfl rfl ?_;exact Wo5
end Go.Proofs.YtmhapcbjjpadnaaGreat
