/- Caches. -/
import Derived.Test.YtmhapcbjjpadnaaGreatGYc
import Derived.Test.YtmhapcbjjpadnaaGreatK8c
set_option linter.all false
set_option maxHeartbeats 16000000
set_option maxRecDepth 40000
open Int renaming toNat_natCast→zE,le_refl→zH
open List renaming getD_eq_getElem?_getD→zA,replicate→zC,length_append→zD,length_set→zF
open Nat renaming zero_le→zG,le_refl→zI
namespace Go.Proofs.YtmhapcbjjpadnaaGreat
open Go Go.Sk Go.RowKit
def yB(l:List Pt)(f:Int):Nat->Bool
 |0=>false
 |i+1=>bif (l.getD i p0).frame==f then(bif yB l f i then true else(l.getD i p0).acc) else yB l f i
theorem bTR(l:List Pt)(f:Int)(B:kU l=true)(C:l.length<=100000):aM Tryz.prog 98 [] [.lst 5 false (aN l),.int .i64 f] (.tup [.lst 5 false (aN (l.map (eP f))),.bool (yB l f l.length)]) []:=by
 have m:=aTJ l false C;rw [B] at m;refine aE (ob0:= []) [] Tryz.func98 rfl rfl rfl rfl ?_;refine Wy ?_;refine Lp (λi:Nat=>i<=l.length) (λi=> [(8,.int .i64 (i:Int)),(7,.bool (yB l f i))]) (λi=> [(0,.row 5 (aN (mO (eP f) l i)))]) (λi=>l.length-i) 0 (zG _) ?_ ?_
 ·rw [vO];exact Vr [_]
 intro i E;refine Wy ?_;refine gE (λb=>?_) (λb=>?_)
 ·have b:i<l.length:=by omega
  have hg:=gH (mO (eP f) l i) i (by rw [oH];exact b);rw [uH _ _ _ _ b] at hg;have z:=qV (eP f) l i p0 b;have D:=aDC (eP f) l i p0 b;have j:eP f (l.getD i p0)=bif (l.getD i p0).frame==f then⟨(l.getD i p0).proc,(l.getD i p0).page,(l.getD i p0).frame,(l.getD i p0).wr,false⟩ else l.getD i p0:=rfl
  have e:yB l f (i+1)=bif (l.getD i p0).frame==f then(bif yB l f i then true else(l.getD i p0).acc) else yB l f i:=rfl
  generalize l.getD i p0=x at *;generalize yB l f i=y at *;refine Wy ?_;refine aC (λc=>?_) (λc=>?_)
  ·rw [c,zct] at j e
   cases y with
   |true=> rw [zct] at e;refine Wy ?_;refine Le (i+1) (hv:=?_);simp only [z,j,e,<-nP];exact Vr [_]
   |false=> rw [zcf] at e;refine Wy ?_;refine Le (i+1) (hv:=?_);simp only [z,j,e,<-nP];exact Vr [_]
  ·rw [c,zcf] at j e;refine Wy ?_;refine Le (i+1) (hv:=?_);simp only [D j,e];exact Vr [_]
 obtain rfl:i=l.length:=by omega
 rw [aBO];exact kK
theorem bBY {l:List Pt} (h:kU l=true)(f:Int):kU (l.map (eP f))=true:=by
 obtain⟨j,m⟩:=(kY l).1 h;have e:∀p,dZ (eP f p)=dZ p:=λp=>by unfold eP;cases(p.frame==f)<;> rfl
 have z:∀p,eN (eP f p)=eN p:=λp=>by unfold eP;cases(p.frame==f)<;> rfl
 refine(kY _).2 ⟨λx B=>?_,?_⟩
 ·obtain⟨y,C,rfl⟩:=List.mem_map.1 B;rw [z];exact j y C
 ·rw [List.pairwise_map];exact m.imp λh=>by rw [e,e];exact h
def iF(g:Gr):Int:=bif decide (g.chg<=g.pro) then 0 else g.chg-g.pro
theorem aOR(g:Gr)(e:0<=g.chg/\g.chg<=64)(h2:0<=g.pro/\g.pro<=64):aM Tryz.prog 108 [] [.agg g.c] (.int .i64 (iF g)) []:=by
 unfold iF
 by_cases h:g.chg<=g.pro
 ·rw [zdt h];refine aE (ob0:= []) [] Tryz.func108 rfl rfl rfl rfl ?_;exact kK
 ·rw [zdf h];refine aE (ob0:= []) [] Tryz.func108 rfl rfl rfl rfl ?_;exact kK
def lN(o:Option Us):Bool:=match o with |none=>false |some u=>bif iJ u then(u.p.d:Int)==0 else false
theorem bR3(o:Option Us):aM Tryz.prog 87 [] [.agg (frC o)] (.bool (lN o)) []:=by
 cases o with
 |none=> show aM Tryz.prog 87 [] [.agg fre.c] (.bool false) [];refine aE (ob0:= []) [] Tryz.func87 rfl rfl rfl rfl ?_;exact kK
 |some u=>
  have e:=bDR u;show aM Tryz.prog 87 [] [.agg u.c] (.bool (bif iJ u then(u.p.d:Int)==0 else false)) [];generalize iJ u=y at *
  cases y with
  |true=> refine aE (ob0:= []) [] Tryz.func87 rfl rfl rfl rfl ?_;exact kK
  |false=> refine aE (ob0:= []) [] Tryz.func87 rfl rfl rfl rfl ?_;exact kK
def dG(c:Dc):Nat->Dc
 |0=>c
 |k+1=>match c.fr.getD k none with
  |some u=>bif yB (dG c k).pt ((k+1:Nat):Int) (dG c k).pt.length then((dG c k).acc k u.ten).pts ((dG c k).pt.map (eP ((k+1:Nat):Int))) else dG c k
  |none=>dG c k
theorem vD {c:Dc} (h:Ok c):∀k,Ok (dG c k)
 |0=>h
 |k+1=>by
  have e:=vD h k;rw [dG];split
  ·cases yB (dG c k).pt ((k+1:Nat):Int) (dG c k).pt.length with
   |true=>exact(e.acc _ _).pts (bBY e.pt _)
   |false=>exact e
  ·exact e
theorem aFK(c:Dc):∀k,dG c k=⟨c.fl,c.fr,c.zo,c.gr,(dG c k).ls,c.ck,(dG c k).pt⟩/\(dG c k).ls.length=c.ls.length
 |0=>⟨rfl,rfl⟩
 |k+1=>by
  obtain⟨e,f⟩:=aFK c k;rw [dG];split
  ·cases yB (dG c k).pt ((k+1:Nat):Int) (dG c k).pt.length with
   |true=>
    refine⟨?_,?_⟩
    ·rw [zct,e];rfl
    ·show(List.set _ _ _).length=_;rw [zF];exact f
   |false=>exact⟨e,f⟩
  ·exact⟨e,f⟩
noncomputable def R20:Rsv Tryz.prog Tryz.f20 [] 1:=⟨_,_,rfl,rfl⟩
theorem bP4(c:Dc)(h:Ok c):aM Tryz.prog 20 [] [.agg c.c] (.agg (dG c c.fr.length).c) []:=by
 have E:=aIV c h.sm;have J:=h.nr;unfold Dc.o Dc.ob at E;refine fnZ R20 Tryz.func20 ?_;refine Wy ?_;refine Lp (λi:Nat=>i<=c.fr.length) (λi=> [(4,.int .i64 ((i+1:Nat):Int))]) (λi=> [(5,.row 3 (aU (dG c i).ls)),(7,.box [.sl 2 0 c.fl.length,.sl 3 0 c.fr.length,.lst 6 false (aK c.zo),.sl 4 0 c.gr.length,.sl 5 0 c.ls.length,.sl 6 0 c.ck.length,.lst 5 false (aN (dG c i).pt)])]) (λi=>c.fr.length-i) 0 (zG _) ?_ ?_
 ·exact Vr [some 0,some 1,some 2,some 3,some 4,some 5,some 6,some 18]
 intro i O;refine Wy ?_;obtain⟨e1,G⟩:=aFK c i;refine gE (λb=>?_) (λb=>?_)
 ·have b:i<c.fr.length:=by omega
  have F:=vD h i;have hgt:∀t,dM ((dG c i).ls.getD t l0):=λt=>F.smL t;have C:=F.pt;have z:=F.ptl;have K:=bTR (dG c i).pt ((i+1:Nat):Int) C z
  have e:dG c (i+1)=match c.fr.getD i none with
   |some u=>bif yB (dG c i).pt ((i+1:Nat):Int) (dG c i).pt.length then((dG c i).acc i u.ten).pts ((dG c i).pt.map (eP ((i+1:Nat):Int))) else dG c i
   |none=>dG c i:=rfl
  have hg:=cC c.fr i b;have f:=aBX c ((i+1:Nat):Int) h.sm
  cases j:c.fr.getD i none with
  |none=>
   rw [j] at e hg;have hg:(aO c.fr).getD i []=fre.c:=hg
   have f:aM Tryz.prog 70 [] [.agg c.c,.int .i64 ((i+1:Nat):Int)] (.bool false) []:=by
    have :fK c ((i+1:Nat):Int)=false:=by unfold fK;rw [zdt (show(1:Int)<=((i+1:Nat):Int) by omega),zdt (show((i+1:Nat):Int)<=(c.fr.length:Int) by omega),show(((i+1:Nat):Int)-1).toNat=i by omega,j];rfl
    rwa [this] at f
   dsimp only at e;generalize yB (dG c i).pt ((i+1:Nat):Int) (dG c i).pt.length=y at *;generalize((dG c i).pt.map (eP ((i+1:Nat):Int)))=P at *
   cases y with
   |true=> refine Wy ?_;refine Le (i+1) (hv:=?_);simp only [e];exact Vr [some 0,some 1,some 2,some 3,some 4,some 5,some 6,some 7]
   |false=> refine Wy ?_;refine Le (i+1) (hv:=?_);simp only [e];exact Vr [some 0,some 1,some 2,some 3,some 4,some 5,some 6,some 7]
  |some u=>
   rw [j] at e hg;have hg:(aO c.fr).getD i []=u.c:=hg;have N:=h.use i u b j;have f:=h.use70 b j;have D:u.ten< (dG c i).ls.length:=by rw [G,h.nl];exact N.ten
   have H:=eC (dG c i).ls u.ten D;have M:=bR4 ((dG c i).ls.getD u.ten l0) ((i+1:Nat):Int) (hgt _);dsimp only at e;have m:(((dG c i).acc i u.ten).pts ((dG c i).pt.map (eP ((i+1:Nat):Int)))).ls=(dG c i).ls.set u.ten (nH ((dG c i).ls.getD u.ten l0) ((i+1:Nat):Int)).1:=rfl;have B:(((dG c i).acc i u.ten).pts ((dG c i).pt.map (eP ((i+1:Nat):Int)))).pt=((dG c i).pt.map (eP ((i+1:Nat):Int))):=rfl;generalize(((dG c i).acc i u.ten).pts ((dG c i).pt.map (eP ((i+1:Nat):Int))))=A at *
   generalize yB (dG c i).pt ((i+1:Nat):Int) (dG c i).pt.length=y at *;generalize((dG c i).pt.map (eP ((i+1:Nat):Int)))=P at *
   cases y with
   |true=> rw [zct] at e;refine Wy ?_;refine Le (i+1) (hv:=?_);simp only [e,m,B,<-iE];exact Vr [some 0,some 1,some 2,some 3,some 4,some 5,some 6,some 7]
   |false=> rw [zcf] at e;refine Wy ?_;refine Le (i+1) (hv:=?_);simp only [e];exact Vr [some 0,some 1,some 2,some 3,some 4,some 5,some 6,some 7]
 obtain rfl:i=c.fr.length:=by omega
 rw [e1];unfold Dc.c;dsimp only;exact kK
def jN(l:List Gr)(out:List Int)(ps i:Nat):Int:=bif ps==0 then iF (l.getD i g0)-out.getD i 0 else(l.getD i g0).chg-out.getD i 0
def cJ(l:List Gr)(out:List Int)(ps:Nat):Nat->Int×Int
 |0=>(-1,0)
 |i+1=>bif decide ((cJ l out ps i).2<jN l out ps i) then((i:Int),jN l out ps i) else cJ l out ps i
def divN(l:List Gr)(ps:Nat):Nat->List Int->List Int×Nat
 |0,out=>(out,0)
 |n+1,out=>bif decide ((cJ l out ps l.length).1<0) then(out,n+1) else divN l ps n (out.set (cJ l out ps l.length).1.toNat (out.getD (cJ l out ps l.length).1.toNat 0+1))
def lA(l:List Gr)(n:Nat):Nat->List Int×Nat
 |0=>(zC l.length 0,n)
 |k+1=>divN l k (lA l n k).2 (lA l n k).1
structure aMX(l:List Gr)(n0 n:Nat)(out:List Int):Prop where
 len:out.length=l.length
 le:n<=n0
 bd:∀i,0<=out.getD i 0/\out.getD i 0+(n:Int)<=(n0:Int)
theorem rN(l:List Gr)(out:List Int)(ps:Nat):∀i,-1<=(cJ l out ps i).1/\(cJ l out ps i).1< (i:Int)
 |0=>⟨zH _,by show(-1:Int)<0;omega⟩
 |i+1=>by
  have e:=rN l out ps i;rw [cJ]
  cases decide ((cJ l out ps i).2<jN l out ps i) with
  |true=>rw [zct];dsimp only;omega
  |false=>rw [zcf];omega
theorem aMX.next {l:List Gr} {n0 n:Nat} {out:List Int} (h:aMX l n0 (n+1) out)(j:Nat):aMX l n0 n (out.set j (out.getD j 0+1)):=by
 refine⟨by rw [zF];exact h.len,by have :=h.le;omega,λi=>?_⟩;have m:=h.bd i
 by_cases e:i=j
 ·subst e
  by_cases f:i<out.length
  ·rw [aH _ _ _ _ f];omega
  ·rw [eG _ _ (Nat.le_of_not_lt f)];omega
 ·rw [getD_set_ne _ _ _ e];omega
theorem aSL(l:List Gr)(ps n0:Nat):∀n out,aMX l n0 n out->aMX l n0 (divN l ps n out).2 (divN l ps n out).1
 |0,out,h=>h
 |n+1,out,h=>by
  rw [divN]
  cases decide ((cJ l out ps l.length).1<0) with
  |true=>exact h
  |false=>exact aSL l ps n0 n _ (h.next _)
theorem aFN(l:List Gr)(n:Nat):∀k,aMX l n (lA l n k).2 (lA l n k).1
 |0=>⟨by simp [lA],zI _,λi=>by
   have :(zC l.length (0:Int)).getD i 0=0:=by rw [zA,List.getElem?_replicate];split <;> rfl
   show 0<=(zC l.length (0:Int)).getD i 0/\(zC l.length (0:Int)).getD i 0+(n:Int)<=(n:Int);rw [this];omega⟩
 |k+1=>aSL l k n _ _ (aFN l n k)
theorem uA {l:List Gr} (h:mY l=true) {i:Nat} (hi:i<l.length):(0<=(l.getD i g0).chg/\(l.getD i g0).chg<=64)/\0<=(l.getD i g0).pro/\(l.getD i g0).pro<=64:=by have e:=iV (Bool.and_eq_true _ _▸h).1 hi;unfold nS aIR at e;simp only [Bool.or_eq_false_iff,zdn] at e;omega
theorem aXU {l:List Gr} (h:mY l=true) {n0 n:Nat} {out:List Int} (f:aMX l n0 n out)(ps:Nat)(j:n0<=1000):∀i,i<=l.length->0<=(cJ l out ps i).2/\(cJ l out ps i).2<=64
 |0,_=>⟨zH _,by show(0:Int)<=64;omega⟩
 |i+1,hi=>by
  have m:=aXU h f ps j i (by omega);obtain⟨⟨z,B⟩,C,D⟩:=uA h (show i<l.length by omega);have E:=f.bd i;rw [cJ]
  by_cases e:(cJ l out ps i).2<jN l out ps i
  ·rw [zdt e,zct];dsimp only;refine⟨by omega,?_⟩;unfold jN iF
   cases(ps==0) with
   |true=>
    rw [zct]
    cases decide ((l.getD i g0).chg<=(l.getD i g0).pro) with
    |true=>rw [zct];omega
    |false=>rw [zcf];omega
   |false=>rw [zcf];omega
  ·rw [zdf e,zcf];exact m
noncomputable def bS7:Rsv Tryz.prog Tryz.f101 [] 2:=⟨_,_,rfl,rfl⟩
theorem bOA(l:List Gr)(hg:mY l=true)(n:Nat)(hn:n<=1000):aM Tryz.prog 101 [] [.lst 3 false (aQ l),.int .i64 (n:Int)] (.lst 1 false (aB (lA l n 2).1)) []:=by
 have af:=(lD hg).2;have M:=aTG l false (by omega);rw [hg] at M;have ab:(aQ l).length=l.length:=by simp [aQ]
 have K:zC l.length [V.int .i64 0]=aB (lA l n 0).1:=by simp [aB,lA]
 refine fnZ bS7 Tryz.func101 ?_;refine Wy ?_;simp only [zE,K];refine Lp (λk:Nat=>k<=2) (λk=> [(6,.int .i64 (k:Int)),(1,.int .i64 ((lA l n k).2:Int))]) (λk=> [(0,.row 1 (aB (lA l n k).1))]) (λk=>2-k) 0 (zG _) ?_ ?_
 ·exact Vr [_]
 intro k hk;have Y:=aFN l n k;refine Wy ?_;refine gE (λb=>?_) (λb=>?_)
 ·have b:k<2:=by omega
  have hq:lA l n (k+1)=divN l k (lA l n k).2 (lA l n k).1:=rfl;generalize lA l n k=P at *;generalize Z:lA l n (k+1)=Q at *;refine Wy ?_;refine Lp (α:=Nat×List Int) (λx=>aMX l n x.1 x.2/\Q=divN l k x.1 x.2) (λx=> [(1,.int .i64 (x.1:Int))]) (λx=> [(0,.row 1 (aB x.2))]) (λx=>x.1) (P.2,P.1) ⟨Y,hq⟩ ?_ ?_
  ·exact Vr [_]
  rintro ⟨m,f⟩ ⟨G,E⟩;dsimp only at G E⊢;have H:=G.len;have ag:=G.le;refine Wy ?_;refine gE (λb2=>?_) (λb2=>?_)
  ·obtain⟨m,rfl⟩:∃j,m=j+1:=⟨m-1,by omega⟩;refine Wy ?_;refine Lp (λi:Nat=>i<=l.length) (λi=> [(9,.int .i64 (i:Int)),(7,.int .i64 (cJ l f k i).1),(8,.int .i64 (cJ l f k i).2)]) (λi=> []) (λi=>l.length-i) 0 (zG _) ?_ ?_
   ·exact Vr [_]
   intro i hi;have ac:=rN l f k i;have ad:=aXU hg G k hn i hi;refine Wy ?_;refine gE (λW=>?_) (λW=>?_)
   ·have W:i<l.length:=by omega
    have O:=cY l i W;rw [zE] at O;obtain⟨a1,a2⟩:=uA hg W;have N:=G.bd i;have aa:=aOR (l.getD i g0) a1 a2;have R:(aB f).getD i []=[.int .i64 (f.getD i 0)]:=by simp [aB,zA,show i<f.length by omega]
    have z:cJ l f k (i+1)=bif decide ((cJ l f k i).2<jN l f k i) then((i:Int),jN l f k i) else cJ l f k i:=rfl
    have D:jN l f k i=bif k==0 then iF (l.getD i g0)-f.getD i 0 else(l.getD i g0).chg-f.getD i 0:=rfl
    have ae:0<=iF (l.getD i g0)/\iF (l.getD i g0)<=64:=by
     unfold iF
     by_cases e:(l.getD i g0).chg<=(l.getD i g0).pro
     ·rw [zdt e,zct];omega
     ·rw [zdf e,zcf];omega
    generalize l.getD i g0=g at *;generalize f.getD i 0=o at *;generalize cJ l f k i=q at *;obtain⟨B,F⟩:=q;dsimp only at *
    by_cases k0:k=0
    ·subst k0;rw [show((0:Nat)==0)=true from rfl,zct] at D;generalize iF g=ex at *;rw [D] at z
     by_cases C:F<ex-o
     ·rw [zdt C,zct] at z;refine Wy ?_;refine Le (i+1) (hv:=?_);simp only [z];exact Vr [_]
     ·rw [zdf C,zcf] at z;refine Wy ?_;refine Le (i+1) (hv:=?_);simp only [z];exact Vr [_]
    ·rw [zbn.2 k0,zcf] at D;rw [D] at z
     by_cases C:F<g.chg-o
     ·rw [zdt C,zct] at z;refine Wy ?_;refine Le (i+1) (hv:=?_);simp only [z];exact Vr [_]
     ·rw [zdf C,zcf] at z;refine Wy ?_;refine Le (i+1) (hv:=?_);simp only [z];exact Vr [_]
   obtain rfl:i=l.length:=by omega
   have z:divN l k (m+1) f=bif decide ((cJ l f k l.length).1<0) then(f,m+1) else divN l k m (f.set (cJ l f k l.length).1.toNat (f.getD (cJ l f k l.length).1.toNat 0+1)):=rfl
   have J:=G.next (cJ l f k l.length).1.toNat;generalize(cJ l f k l.length).1=B at *
   by_cases hb:B<0
   ·rw [zdt hb,zct] at z;rw [z] at E;subst E;refine Wy ?_;refine Le (k+1) (hv:=?_);simp only [Z];exact Vr [_]
   ·rw [zdf hb,zcf] at z;rw [z] at E;obtain⟨j,rfl⟩:∃j:Nat,B=(j:Int):=⟨B.toNat,by omega⟩;rw [zE] at E J;have N:=G.bd j;have R:(aB f).getD j []=[.int .i64 (f.getD j 0)]:=by simp [aB,zA,show j<f.length by omega]
    have T:(aB f).set j [V.int .i64 (f.getD j 0+1)]=aB (f.set j (f.getD j 0+1)):=by unfold aB;rw [List.map_set]
    generalize f.getD j 0=o at *;refine Wy ?_;refine Le (m,f.set j (o+1)) (hI:=⟨J,E⟩) (hv:=?_);simp only [<-T];exact Vr [_]
  ·obtain rfl:m=0:=by omega
   have E:Q=(f,0):=E;subst E;refine Wy ?_;refine Le (k+1) (hv:=?_);simp only [Z];exact Vr [_]
 obtain rfl:k=2:=by omega
 have H:=Y.len;generalize lA l n 2=P at *;exact kK
theorem gV.aF5 {l:Ls} (h:gV l):∀n,gV (aF5 n l)/\((YtmhapcbjjpadnaaGreat.aF5 n l).A++(YtmhapcbjjpadnaaGreat.aF5 n l).I).Perm (l.A++l.I):=λn=>by
 induction n generalizing l with
 |zero=>exact⟨h,List.Perm.refl _⟩
 |succ n j=>
  rw [YtmhapcbjjpadnaaGreat.aF5]
  by_cases f:(l.A.length:Int)<=l.I.length
  ·rw [show decide ((l.A.length:Int)<=l.I.length)=true by simpa using f];exact⟨h,List.Perm.refl _⟩
  ·rw [show decide ((l.A.length:Int)<=l.I.length)=false by simpa using f];have e:0<l.A.length:=by omega
   have :=j (h.bal e);exact⟨this.1,this.2.trans (aJ4 e)⟩
theorem gV.tK {l:Ls} (h:gV l):gV (tK l)/\((YtmhapcbjjpadnaaGreat.tK l).A++(YtmhapcbjjpadnaaGreat.tK l).I).Perm (l.A++l.I):=by rw [YtmhapcbjjpadnaaGreat.tK,(bF l).2 h];exact h.aF5 _
structure ScK(l:Ls)(s:ScS):Prop where
 perm:s.I.Perm l.I
 asc:s.R.Pairwise (·< ·)
 sub:∀x∈s.R,x∈l.R
theorem ScK.next {l:Ls} (h:gV l) {s:ScS} (k:ScK l s)(held:List Int) {f:Int} (m:f∈l.I):ScK l (lR l.R held s f):=by
 unfold lR
 cases decide (f∈held) with
 |true=>exact k
 |false=>
  cases decide (f∈l.R) with
  |true=> have j:=k.perm.nodup_iff.2 (List.nodup_append.1 h.nodup).2.1;have e:=k.perm.mem_iff.2 m;refine⟨?_,aMQ k.asc f,λx z=>k.sub x (eL.1 z).1⟩;show(f::wo s.I f).Perm l.I;rw [show wo s.I f=s.I.erase f from(List.Nodup.erase_eq_filter j f).symm];exact(List.perm_cons_erase e).symm.trans k.perm
  |false=>exact⟨k.perm,k.asc,k.sub⟩
theorem ScK.scan {l:Ls} (h:gV l)(held:List Int)(n:Int):∀(r:List Int) (s:ScS),(∀x∈r,x∈l.I)->ScK l s->ScK l (jG l.R held n r s)
 | [],_,_,k=>k
 |f::r,s,e,k=>by
  rw [jG]
  cases decide ((s.v.length:Int)<n) with
  |true=>exact ScK.scan h held n r _ (λx j=>e x (by simp [j])) (k.next h held (e f (by simp)))
  |false=>exact k
theorem ScK.start {l:Ls} (h:gV l):ScK l ⟨l.I,l.R,[]⟩:=⟨List.Perm.refl _,h.asc,λx e=>e⟩
theorem gV.scan {l:Ls} (h:gV l)(n:Int)(held:List Int):gV (kS l n held).1/\((kS l n held).1.A++(kS l n held).1.I).Perm (l.A++l.I):=by have k:=ScK.scan h held n l.I.reverse _ (λx e=>List.mem_reverse.1 e) (ScK.start h);rw [kS,(bF l).2 h];simp only [Bool.not_true,zcf];generalize jG l.R held n l.I.reverse ⟨l.I,l.R,[]⟩=s at k⊢;have f:(l.A++s.I).Perm (l.A++l.I):=List.Perm.append_left _ k.perm;exact⟨h.of_perm f k.asc λx e=>h.sub x (k.sub x e),f⟩
theorem aIE(e held:List Int)(n:Int):∀(r:List Int) (s:ScS),(jG e held n r s).v.length<=s.v.length+r.length
 | [],s=>zI _
 |f::r,s=>by
  rw [jG]
  cases decide ((s.v.length:Int)<n) with
  |false=>simp
  |true=>
   have :=aIE e held n r (lR e held s f);have h2:(lR e held s f).v.length<=s.v.length+1:=by unfold lR;cases decide (f∈held)<;> cases decide (f∈e)<;> simp
   simp only [zct,List.length_cons];omega
theorem aRU {l:Ls} (h:gV l)(n:Int)(held:List Int):(kS l n held).2.length<=64:=by have e:=h.len;rw [zD] at e;have k:=aIE l.R held n l.I.reverse ⟨l.I,l.R,[]⟩;rw [kS,(bF l).2 h];simp only [Bool.not_true,zcf];simp only [List.length_nil,Nat.zero_add,List.length_reverse] at k;omega
def cB(c:Dc)(t:Nat)(x:Ls):Dc:=⟨c.fl,c.fr,c.zo,c.gr,c.ls.set t x,c.ck,c.pt⟩
theorem Ok.cB {c:Dc} (h:Ok c) {t:Nat} {x:Ls} (D:dU x=true)(z:∀y,tD x y->tD (c.ls.getD t l0) y):Ok (cB c t x):=by
 refine h.same rfl (λ_ _=>rfl) h.file rfl (λ_=>rfl) (λm v B C=>?_) rfl rfl (zF ..) (λs j=>?_) (λs y f=>?_) rfl h.pt
 ·have :=h.use m v B C;exact⟨this.pg,this.holds,this.rd,this.wr⟩
 ·show dU ((c.ls.set t x).getD s l0)=true
  by_cases e:s=t
  ·subst e;rw [aH _ _ _ _ j];exact D
  ·rw [getD_set_ne _ _ _ e];exact h.ls s j
 ·have f:tD ((c.ls.set t x).getD s l0) y:=f
  by_cases e:s=t
  ·subst e
   by_cases j:s<c.ls.length
   ·rw [aH _ _ _ _ j] at f;exact z y f
   ·rw [eG _ _ (Nat.le_of_not_lt j)] at f;exact f
  ·rw [getD_set_ne _ _ _ e] at f;exact f
def dY(c:Dc):Nat->List Int
 |0=> []
 |k+1=>bif lN (c.fr.getD k none) then dY c k else dY c k++ [((k+1:Nat):Int)]
theorem qO(c:Dc):∀k,(dY c k).length<=k
 |0=>zI _
 |k+1=>by
  have e:=qO c k;rw [dY]
  cases lN (c.fr.getD k none) with
  |true=>rw [zct];omega
  |false=>rw [zcf,zD];simp;omega
def gX(c:Dc)(t:Nat):Ls:=tK (c.ls.getD t l0)
def aW(c:Dc)(t:Nat):Ls×List Int:=kS (gX c t) ((gX c t).I.length:Int) (dY c c.fr.length)
theorem uT {c:Dc} (h:Ok c) {t:Nat} (B:t<c.ls.length):gV (gX c t)/\(aW c t).2.length<=64/\Ok (cB c t (aW c t).1)/\gV (aW c t).1:=by have m:=(bF _).1 (h.ls t B);obtain⟨e,j⟩:=m.tK;obtain⟨f,D⟩:=e.scan ((gX c t).I.length:Int) (dY c c.fr.length);refine⟨e,aRU e _ _,h.cB ((bF _).2 f) λy C=>?_,f⟩;have z:=D.trans j;have :y∈(kS (gX c t) ((gX c t).I.length:Int) (dY c c.fr.length)).1.A++(kS (gX c t) ((gX c t).I.length:Int) (dY c c.fr.length)).1.I:=List.mem_append.2 C;exact List.mem_append.1 (z.mem_iff.1 this)
def iH(n:Int)(v:List Int)(s:Dc×Int):Nat->Dc×Int
 |0=>s
 |i+1=>bif decide ((iH n v s i).2<n) then(bif (evG (iH n v s i).1 (v.getD i 0)).2==0 then((evG (iH n v s i).1 (v.getD i 0)).1,(iH n v s i).2+1) else iH n v s i) else iH n v s i
def kC(n:Int)(a:List Int)(s:Dc×Int):Nat->Dc×Int
 |0=>s
 |i+1=>bif decide ((kC n a s i).2<n) then(bif lN ((kC n a s i).1.fr.getD (a.getD (a.length-1-i) 0-1).toNat none) then((evG (kC n a s i).1 (a.getD (a.length-1-i) 0)).1,(kC n a s i).2+1) else kC n a s i) else kC n a s i
def cS(c:Dc)(t:Nat)(n:Int):Nat->Dc×Int
 |0=>(c,0)
 |k+1=>bif decide ((cS c t n k).2<n) then iH n (aW (cS c t n k).1 t).2 (cB (cS c t n k).1 t (aW (cS c t n k).1 t).1,(cS c t n k).2) (aW (cS c t n k).1 t).2.length else cS c t n k
def jU(c:Dc)(t:Nat)(n:Int):Dc×Int:=bif decide (n<1) then(c,0) else kC n ((cS c t n 2).1.ls.getD t l0).A (cS c t n 2) ((cS c t n 2).1.ls.getD t l0).A.length
structure TrI(c:Dc)(s:Dc×Int)(b:Int):Prop where
 ok:Ok s.1
 sh:Sh c s.1
 lo:0<=s.2
 hi:s.2<=b
theorem TrI.wid {c:Dc} {s:Dc×Int} {b f:Int} (h:TrI c s b)(e:b<=f):TrI c s f:=⟨h.ok,h.sh,h.lo,by have :=h.hi;omega⟩
theorem TrI.ev {c:Dc} {s:Dc×Int} {b:Int} (h:TrI c s b)(x:Int):TrI c ((evG s.1 x).1,s.2+1) (b+1):=by obtain⟨o,e⟩:=(pS.ev s.1 x).sh h.ok;have :=h.lo;have :=h.hi;exact⟨o,h.sh.trans e,by dsimp only;omega,by dsimp only;omega⟩
theorem aG3 {c:Dc} {n:Int} {v:List Int} {s:Dc×Int} {b:Int} (h:TrI c s b):∀i,TrI c (iH n v s i) (b+i)
 |0=>h.wid (by omega)
 |i+1=>by
  have e:=aG3 (n:=n) (v:=v) h i;rw [iH]
  cases decide ((iH n v s i).2<n) with
  |false=>exact e.wid (by omega)
  |true=>
   rw [zct]
   cases((evG (iH n v s i).1 (v.getD i 0)).2==0) with
   |false=>exact e.wid (by omega)
   |true=>exact(e.ev _).wid (by omega)
theorem aKP {n:Int} {v:List Int} {s:Dc×Int} {i:Nat} (h:¬(iH n v s i).2<n):∀j,i<=j->iH n v s j=iH n v s i
 |0,f=>by
  obtain rfl:i=0:=by omega
  rfl
 |j+1,f=>by
  by_cases e:i=j+1
  ·rw [e]
  ·rw [iH,aKP h j (by omega),zdf h,zcf]
theorem aFJ {c:Dc} {n:Int} {a:List Int} {s:Dc×Int} {b:Int} (h:TrI c s b):∀i,TrI c (kC n a s i) (b+i)
 |0=>h.wid (by omega)
 |i+1=>by
  have e:=aFJ (n:=n) (a:=a) h i;rw [kC]
  cases decide ((kC n a s i).2<n) with
  |false=>exact e.wid (by omega)
  |true=>
   rw [zct]
   cases lN ((kC n a s i).1.fr.getD (a.getD (a.length-1-i) 0-1).toNat none) with
   |false=>exact e.wid (by omega)
   |true=>exact(e.ev _).wid (by omega)
theorem aJ2 {n:Int} {a:List Int} {s:Dc×Int} {i:Nat} (h:¬(kC n a s i).2<n):∀j,i<=j->kC n a s j=kC n a s i
 |0,f=>by
  obtain rfl:i=0:=by omega
  rfl
 |j+1,f=>by
  by_cases e:i=j+1
  ·rw [e]
  ·rw [kC,aJ2 h j (by omega),zdf h,zcf]
theorem uN {c:Dc} (h:Ok c) {t:Nat} (f:t<c.gr.length)(n:Int):∀k,TrI c (cS c t n k) (64*k)
 |0=>⟨h,Sh.refl c,zH _,by show(0:Int)<=_;omega⟩
 |k+1=>by
  have e:=uN h f n k;rw [cS]
  cases decide ((cS c t n k).2<n) with
  |false=>exact e.wid (by omega)
  |true=>
   rw [zct];have j:t< (cS c t n k).1.ls.length:=by rw [e.ok.nl,e.sh.gr];exact f
   obtain⟨-,q2,m,-⟩:=uT e.ok j;have k0:TrI c (cB (cS c t n k).1 t (aW (cS c t n k).1 t).1,(cS c t n k).2) (64*k):=⟨m,e.sh.trans ⟨rfl,rfl,rfl,rfl⟩,e.lo,e.hi⟩;exact(aG3 k0 _).wid (by omega)
theorem aI0 {c:Dc} {t:Nat} {n:Int} {i:Nat} (h:¬(cS c t n i).2<n):∀j,i<=j->cS c t n j=cS c t n i
 |0,f=>by
  obtain rfl:i=0:=by omega
  rfl
 |j+1,f=>by
  by_cases e:i=j+1
  ·rw [e]
  ·rw [cS,aI0 h j (by omega),zdf h,zcf]
theorem aCF {c:Dc} (h:Ok c) {t:Nat} (f:t<c.gr.length)(n:Int):TrI c (jU c t n) 200:=by
 unfold jU
 cases decide (n<1) with
 |true=>exact⟨h,Sh.refl c,zH _,by show(0:Int)<=200;omega⟩
 |false=>
  rw [zcf];have p:=uN h f n 2;have j:t< (cS c t n 2).1.ls.length:=by rw [p.ok.nl,p.sh.gr];exact f
  have e:=((bF _).1 (p.ok.ls t j)).len;rw [zD] at e;exact(aFJ p _).wid (by omega)
end Go.Proofs.YtmhapcbjjpadnaaGreat
