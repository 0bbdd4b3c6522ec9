/- Caches. -/
import Derived.Test.YtmhapcbjjpadnaaGreatQNo
import Derived.Test.YtmhapcbjjpadnaaGreatQMo
set_option linter.all false
set_option maxRecDepth 40000
open Bool renaming and_eq_true→zG
open List renaming getD_eq_getElem?_getD→zA,replicate→zC,map_replicate→zD,filter_cons→zF,range→zH,mem_cons_of_mem→zI,length_append→zJ
open Nat renaming le_refl→zE
namespace Go.Proofs.YtmhapcbjjpadnaaGreat
open Go Go.Sk Go.RowKit
theorem aNM(n:Int)(v:List Int)(s:Dc×Int):∀i,uZ s.1 (cA n v s i).1
 |0=>uZ.refl _
 |i+1=>by
  have e:=aNM n v s i;rw [cA]
  cases decide ((cA n v s i).2<n) with
  |false=>exact e
  |true=>
   rw [zct]
   cases((jS (cA n v s i).1 (v.getD i 0)).2==0) with
   |false=>exact e
   |true=>exact e.trans (nX _ _)
theorem aL3(n:Int)(a:List Int)(s:Dc×Int):∀i,uZ s.1 (cK n a s i).1
 |0=>uZ.refl _
 |i+1=>by
  have e:=aL3 n a s i;rw [cK]
  cases decide ((cK n a s i).2<n) with
  |false=>exact e
  |true=>
   rw [zct]
   cases jL ((cK n a s i).1.fr.getD (a.getD (a.length-1-i) 0-1).toNat none) with
   |false=>exact e
   |true=>exact e.trans (nX _ _)
theorem uZ.gone {c e:Dc} (h:uZ c e) {m:Nat} (f:c.fr.getD m none=none):e.fr.getD m none=none:=by
 cases j:e.fr.getD m none with
 |none=>rfl
 |some u=>rw [h m u j] at f;cases f
theorem aNL {t:Nat} {n:Int} {s:Dc×Int} (M:0<=n)(F:s.2=0) {v:List Int} (hv:aO2 s.1 t v)(B:∀i,(cA n v s i).1.fr.length=s.1.fr.length):∀i,i<=v.length->
 (cA n v s i).2=min (i:Int) n/\∀j m,j<v.length->v.getD j 0=((m+1:Nat):Int)->((cA n v s i).1.fr.getD m none=none↔j<i/\(j:Int)<n)
 |0,_=>by
  refine⟨by show s.2=_;rw [F];omega,λj m f hm=>⟨λh=>?_,λh=>by omega⟩⟩;have e:v.getD j 0=v[j]:=by simp [zA,f]
  obtain⟨N,u,R,J,K,-⟩:=hv.at_ _ (List.getElem_mem f);rw [<-e,hm] at J;obtain rfl:m=N:=by omega
  have h:s.1.fr.getD m none=none:=h;rw [K] at h;cases h
 |i+1,T=>by
  obtain⟨k1,k2⟩:=aNL M F hv B i (by omega)
  by_cases z:(cA n v s i).2<n
  ·obtain⟨O,H,Q,E⟩:=aPN hv (n:=n) (s:=s) rfl (show i<v.length by omega);obtain⟨e1,C⟩:=aCA hv (n:=n) (s:=s) rfl (show i<v.length by omega) (B i) z;rw [C];refine⟨by dsimp only;omega,λj m f hm=>?_⟩;dsimp only
   by_cases x:j=i
   ·subst x;obtain rfl:m=O:=by omega
    cases G:(cA n v s j).1.fr.getD m none with
    |none=>rw [G] at E;cases E
    |some u=> obtain⟨q,-⟩:=aQG (c:=(cA n v s j).1) (by rw [B];exact H) G E;rw [Q,q,aH _ _ _ _ (by rw [B];exact H)];exact⟨λ_=>⟨by omega,by omega⟩,λ_=>rfl⟩
   ·have D:v.getD i 0≠((m+1:Nat):Int):=λh=>by
     have e1:v.getD i 0=v[i]:=by simp [zA,show i<v.length by omega]
     have C:v.getD j 0=v[j]:=by simp [zA,f]
     have :v[j]=v[i]:=by rw [<-e1,<-C,hm,h]
     exact x ((List.getElem_inj hv.nodup).1 this)
    rw [aVS D,k2 j m f hm];exact⟨λh=>⟨by omega,h.2⟩,λh=>⟨by omega,h.2⟩⟩
  ·have e:cA n v s (i+1)=cA n v s i:=by rw [cA,zdf z,zcf]
   rw [e];refine⟨by omega,λj m f hm=>?_⟩;rw [k2 j m f hm];exact⟨λh=>⟨by omega,h.2⟩,λh=>⟨by omega,h.2⟩⟩
theorem aYW {c:Dc} (h:Ok c) {t:Nat} (z:t<c.gr.length) {n:Int} (Q:1<=n) {j m:Nat} (D:j< (bP c.x t).2.length)(hm:(bP c.x t).2.getD j 0=((m+1:Nat):Int)):
 (cR c t n).1.fr.getD m none=none↔(j:Int)<n:=by
 have O:t<c.x.ls.length:=by rw [h.x.nl];exact z
 have E:=aE6 h.x O;have e1:aL c.x t n 1=cA n (bP c.x t).2 (cP c.x t (bP c.x t).1,0) (bP c.x t).2.length:=by rw [aL,show aL c.x t n 0=(c.x,0) from rfl,zdt (show(0:Int)<n by omega),zct]
 have H:=aJU h.x (t:=t) z (n:=n) (by omega) 0;have B:aO2 (cP c.x t (bP c.x t).1) t (bP c.x t).2:=⟨E.nodup,E.at_⟩;obtain⟨f1,f2⟩:=aNL (t:=t) (n:=n) (s:=(cP c.x t (bP c.x t).1,0)) (by omega) rfl B (λi=>by have :=aAY (v:=(bP c.x t).2) (H.scan z).p i;exact this.fr) _ (zE _)
 rw [<-e1] at f1 f2;have G:aL c.x t n 2=bif decide ((aL c.x t n 1).2<n) then cA n (bP (aL c.x t n 1).1 t).2 (cP (aL c.x t n 1).1 t (bP (aL c.x t n 1).1 t).1,(aL c.x t n 1).2) (bP (aL c.x t n 1).1 t).2.length else aL c.x t n 1:=rfl
 have J:uZ (aL c.x t n 1).1 (aL c.x t n 2).1:=by
  rw [G]
  cases decide ((aL c.x t n 1).2<n) with
  |false=>exact uZ.refl _
  |true=>exact(show uZ (aL c.x t n 1).1 (cP (aL c.x t n 1).1 t (bP (aL c.x t n 1).1 t).1) from uZ.refl _).trans (aNM _ _ _ _)
 have C:(cR c t n).1=(cK n ((aL c.x t n 2).1.ls.getD t l0).A (aL c.x t n 2) ((aL c.x t n 2).1.ls.getD t l0).A.length).1:=by unfold cR;rw [zdf (show ¬n<1 by omega),zcf]
 have K:=J.trans (aL3 n ((aL c.x t n 2).1.ls.getD t l0).A (aL c.x t n 2) ((aL c.x t n 2).1.ls.getD t l0).A.length);have k:=f2 j m D hm;constructor
 ·intro F
  by_cases e:(j:Int)<n
  ·exact e
  ·exfalso;have f:¬(aL c.x t n 1).2<n:=by omega
   have M:aL c.x t n 2=aL c.x t n 1:=by rw [G,zdf f,zcf]
   have N:=pK (n:=n) (a:=((aL c.x t n 1).1.ls.getD t l0).A) (s:=aL c.x t n 1) (i:=0) f _ (Nat.zero_le ((aL c.x t n 1).1.ls.getD t l0).A.length);rw [C,M,N] at F;exact e (k.1 F).2
 ·intro e;rw [C];exact K.gone (k.2 ⟨D,e⟩)
theorem aC4(j held:List Int)(n:Int):∀(r:List Int) (s:ScS),(∀x∈r,x∉held)->(s.v.length:Int)+r.length<=n->(jD j held n r s).v=s.v++r.filter λx=> !decide (x∈j)
 | [],s,_,_=>by simp [jD]
 |f::r,s,m,C=>by
  rw [List.length_cons] at C;rw [jD,zdt (show(s.v.length:Int)<n by omega),zct];have B:f∉held:=m f (List.mem_cons_self ..)
  by_cases b:f∈j
  ·have e:eR j held s f=⟨f::wo s.I f,wo s.R f,s.v⟩:=by unfold eR;rw [zdf B,zcf,zdt b,zct]
   rw [e,aC4 j held n r _ (λx z=>m x (zI _ z)) (by dsimp only;omega),zF,zdt b];rfl
  ·have e:eR j held s f=⟨s.I,s.R,s.v++ [f]⟩:=by unfold eR;rw [zdf B,zcf,zdf b,zcf]
   rw [e,aC4 j held n r _ (λx z=>m x (zI _ z)) (by dsimp only;rw [zJ];simp;omega),zF,zdf b];simp
def f2C(z:List Zn)(g:List Gr):Dc:=⟨[⟨0,0,eE,0,0,0,0⟩,⟨0,1,eE,0,0,0,0⟩],zC (szF z).toNat none,z,g,zC g.length l0,zC g.length 0,[]⟩
theorem bKL {z:List Zn} {g:List Gr} (D:aUX z)(hg:nR g=true):Ok (f2C z g):=by
 have h:=bDM D hg;have m:∀f,f<2->(f2C z g).fl.getD f bC=(c0 z g).fl.getD f bC:=λf m=>by rcases(show f=0\/f=1 by omega) with rfl |rfl <;> rfl
 have j:∀n,(f2C z g).fr.getD n none=none:=λn=>by show(zC _ none).getD n none=none;rw [zA,List.getElem?_replicate];split <;> rfl
 refine⟨by show 2<=3;omega,h.nr,h.ng,h.nl,h.nk,λf e=>by rw [m f e];exact h.file f (by show f<3;have :f<2:=e;omega),λn u E C=>(by rw [j] at C;cases C),λf p e B=>?_,h.zone,h.free,h.gr,h.ls,h.mem,h.ck,h.pt⟩
 rw [m f e] at B;obtain⟨n,u,k1,k2,k3,-⟩:=h.ent f p (by show f<3;have :f<2:=e;omega) B;have k3:(f2C z g).fr.getD n none=some u:=k3;rw [j] at k3;cases k3
theorem bKK(z:List Zn)(g:List Gr):uY (aN0 [(0,0),(0,1)] z g) (.agg (f2C z g).c):=by
 unfold aN0 f2C Dc.c;refine .aggs (.cons (.refl _) (.cons ?_ (.cons (.refl _) (.cons (.refl _) (.cons ?_ (.cons ?_ (.cons .nils .nil)))))))
 ·show uY (.lst 9 false (rT (zC (szF z).toNat fre))) (.lst 9 false (aY (zC (szF z).toNat none)));unfold rT aY;rw [zD,zD];exact .refl _
 ·show uY (.lst 3 false (zC g.length [bV,bV,bV])) (.lst 3 false ((zC g.length l0).map Ls.c));rw [show zC g.length [bV,bV,bV]=(zC g.length l0).map λ_=> [bV,bV,bV] by rw [zD]];refine .rows (λh=>h) λx e=>?_;obtain rfl:=List.eq_of_mem_replicate e;exact .cons .nils (.cons .nils (.cons .nils .nil))
 ·show uY (.lst 1 false (zC g.length [.int .i64 0])) (.lst 1 false (aB (zC g.length 0)));rw [aB,zD];exact .refl _
def o0:Dc:=f2C (newF [12]).1 [⟨12,0,0⟩]
theorem bL4:Ok o0:=bKL (aFT (by decide +kernel)) (by decide +kernel)
theorem bH5:aN Tryz.prog 29 [] [.lst 2 false (rS [(0,0),(0,1)]),.lst 1 false (aB [12]),.lst 3 false (aR [⟨12,0,0⟩])] (.tup [.agg o0.c,.int .i64 0]) []:=by
 have k:=bF9 [(0,0),(0,1)] false [12] false [⟨12,0,0⟩] false (by decide) (by decide) (by decide);have e:aN1 [(0,0),(0,1)] [12] [⟨12,0,0⟩]=(aN0 [(0,0),(0,1)] (newF [12]).1 [⟨12,0,0⟩],0):=by unfold aN1;rw [show nR [⟨12,0,0⟩]=true from by decide +kernel,show(newF [12]).2=0 from by decide +kernel,show aBP [(0,0),(0,1)]=true from by decide,show aSX [⟨12,0,0⟩]=true from by decide];rfl
 rw [e] at k;exact k.le (mC.refl _) (.tups (.cons (bKK _ _) (.cons (.refl _) .nil))) (oS.refl _)
def oI:Nat->Dc
 |0=>o0
 |k+1=>(mU (oI k) ((k/8:Nat):Int) ((k%8:Nat):Int) 0 0 true).1
theorem aMK:∀k,Ok (oI k)
 |0=>bL4
 |k+1=>aDY (aMK k) _ _ _ _ _
def oB(n:Nat):Dc:=(rW (rW (oI n) 0 128).1 1 128).1
theorem bE5(n:Nat):Ok (oB n):=aE9 (aE9 (aMK n) _ _) _ _
def uV(n:Nat):List Int:=(zH n).reverse.map λ(i:Nat)=>((i+1:Nat):Int)
def bKA(n:Nat):Bool:=
 (oB n).pt.isEmpty&&(match(oB n).ls with | [l]=>l.A== []&&l.I==uV n&&l.R== [] |_=>false)&&(oB n).gr.length==1&&(oB n).fr.length==12&&(oB n).fl.length==2
  &&((zH 12).all λi=>match(oB n).fr.getD i none with |some u=>decide (i<n)&&u.file==i/8&&u.page==i%8&&u.ten==0&&jL (some u)|none=>decide (n<=i))
  &&((zH n).all λi=>fV (oB n) (i/8) (i%8*16) 1==1&&cnt (i%8*16) 1==1&&(match iW (oB n) (i/8) (i%8*16) 1 false 1 with |some []=>true |_=>false)&&(match iR (oB n) (i/8) (i%8*16/16+0) with |some (m,u)=>m==i&&u.ten==0 |none=>false))
  &&((zH 13).all λm=>m==0||(aBA (oB n).gr m 2).1== [((min m n:Nat):Int)])
  &&((zH n).all λi=>lO ⟨[],uV n,[]⟩ ((i+1:Nat):Int)&&cE ((i+1:Nat):Int))
theorem aVD:∀n:Fin 11,1<=n.val->bKA n.val=true:=by decide +kernel
def oC(n:Nat)(R:List Int):Dc:=⟨(oB n).fl,(oB n).fr,(oB n).zo,(oB n).gr,[⟨[],uV n,R⟩],(oB n).ck,(oB n).pt⟩
structure FaO(n:Nat):Prop where
 pt:(oB n).pt=[]
 ls:(oB n).ls=[⟨[],uV n,[]⟩]
 gr:(oB n).gr.length=1
 fr:(oB n).fr.length=12
 fl:(oB n).fl.length=2
 use:∀i u,(oB n).fr.getD i none=some u->i<n/\u.file=i/8/\u.page=i%8/\u.ten=0/\jL (some u)=true
 full:∀i,i<n->∃u,(oB n).fr.getD i none=some u
 rdn:∀i,i<n->fV (oB n) (i/8) (i%8*16) 1=1/\cnt (i%8*16) 1=1/\iW (oB n) (i/8) (i%8*16) 1 false 1=some []/\∃u,iR (oB n) (i/8) (i%8*16/16+0)=some (i,u)/\u.ten=0
 div:∀m,1<=m->m<=12->(aBA (oB n).gr m 2).1=[((min m n:Nat):Int)]
 has:∀i,i<n->lO ⟨[],uV n,[]⟩ ((i+1:Nat):Int)=true/\cE ((i+1:Nat):Int)=true
theorem FaO.mk' {n:Nat} (J:1<=n)(h2:n<=10):FaO n:=by
 have h:=aVD ⟨n,by omega⟩ J;unfold bKA at h;dsimp only at h;simp only [zG,List.all_eq_true,List.mem_range,zbe] at h;obtain⟨⟨⟨⟨⟨⟨⟨⟨z,B⟩,C⟩,D⟩,E⟩,j⟩,F⟩,G⟩,H⟩:=h;refine⟨List.isEmpty_iff.1 z,?_,C,D,E,λi u e=>?_,λi f=>?_,λi f=>?_,λm M N=>?_,H⟩
 ·revert B;generalize(oB n).ls=L
  match L with
  | []=>exact λh=>by cases h
  | [⟨A,I,R⟩]=> intro h;simp only [zG,zbe] at h;obtain⟨⟨rfl,rfl⟩,rfl⟩:=h;rfl
  |_::_::_=>exact λh=>by cases h
 ·by_cases f:i<12
  ·have k:=j i f;rw [e] at k;simp only [zG,zbe,decide_eq_true_eq] at k;obtain⟨⟨⟨⟨k1,k2⟩,k3⟩,k4⟩,K⟩:=k;exact⟨k1,k2,k3,k4,K⟩
  ·rw [zA,List.getElem?_eq_none (by omega)] at e;cases e
 ·have k:=j i (by omega)
  cases e:(oB n).fr.getD i none with
  |some u=>exact⟨u,rfl⟩
  |none=>rw [e] at k;simp at k;omega
 ·obtain⟨⟨⟨k1,k2⟩,k3⟩,k4⟩:=F i f;refine⟨k1,k2,?_,?_⟩
  ·revert k3
   cases iW (oB n) (i/8) (i%8*16) 1 false 1 with
   |none=>exact λh=>by cases h
   |some L=>
    cases L with
    |nil=>exact λ_=>rfl
    |cons a b=>exact λh=>by cases h
  ·revert k4
   cases iR (oB n) (i/8) (i%8*16/16+0) with
   |none=>exact λh=>by cases h
   |some x=> obtain⟨m,u⟩:=x;intro h;simp only [zG,zbe] at h;obtain⟨rfl,h⟩:=h;exact⟨u,rfl,h⟩
 ·have k:=G m (by omega);simp only [Bool.or_eq_true,zbe] at k;rcases k with k |k
  ·omega
  ·exact k
theorem bH6 {n:Nat} (h:FaO n):oB n=oC n []:=by have e:=h.ls;unfold oC;rw [<-e]
theorem aX3 {n:Nat} (h:FaO n) {R:List Int} (e:dM ⟨[],uV n,R⟩=true):Ok (oC n R):=by have k:=(bE5 n).cP (t:=0) (x:=⟨[],uV n,R⟩) e (λy f=>by rw [h.ls];exact f);unfold cP at k;rw [h.ls] at k;exact k
def aKJ(R:List Int)(i:Nat):List Int:=gX R (fB R ((i+1:Nat):Int)) ((i+1:Nat):Int)
theorem bIC {n:Nat} (h:FaO n) {R:List Int} (e:dM ⟨[],uV n,R⟩=true) {i:Nat} (hi:i<n)(f:((i+1:Nat):Int)∉R):(nM ⟨[],uV n,R⟩ ((i+1:Nat):Int)).1=⟨[],uV n,aKJ R i⟩:=by obtain⟨k1,k2⟩:=h.has i hi;have k1:lO ⟨[],uV n,R⟩ ((i+1:Nat):Int)=true:=k1;unfold nM;rw [e,k1,k2,zdf f];rfl
theorem aR7 {n:Nat} (h:FaO n) {R:List Int} (f:dM ⟨[],uV n,R⟩=true) {i:Nat} (hi:i<n)(z:((i+1:Nat):Int)∉R):
 dM ⟨[],uV n,aKJ R i⟩=true/\∃s:ByteArray,aN4 (oC n R) (i/8) (i%8*16) 1=.tup [.agg (oC n (aKJ R i)).c,.str s,.int .i64 0]:=by
 obtain⟨k1,k2,k3,u,k4,B⟩:=h.rdn i hi;have e:=bIC h f hi z;have j:=(aKK f ((i+1:Nat):Int)).1;rw [e] at j;refine⟨j,(rdL (oC n R) (i/8) (i%8*16) 1 1).2,?_⟩;unfold aN4;rw [show fV (oC n R) (i/8) (i%8*16) 1=1 from k1,k2,show iW (oC n R) (i/8) (i%8*16) 1 false 1=some [] from k3];have k4:iR (oC n R) (i/8) (i%8*16/16+0)=some (i,u):=k4;dsimp only;rw [rdL,k4];dsimp only;rw [rdL];dsimp only
 have m:(oC n R).acc i u.ten=oC n (aKJ R i):=by rw [B];unfold Dc.acc oC;dsimp only;rw [show([⟨[],uV n,R⟩]:List Ls).getD 0 l0=⟨[],uV n,R⟩ from rfl,e];rfl
 rw [m]
theorem aQU {R:List Int} {i:Nat} {x:Int} :x∈aKJ R i↔x=((i+1:Nat):Int)\/x∈R:=aAE
theorem bH7 {n:Nat} (h:FaO n)(R:List Int):OkP (oC n R):=by
 refine⟨λx e=>?_,λm u _ f=>?_⟩
 ·have e:x∈(oB n).pt:=e;rw [h.pt] at e;cases e
 ·obtain⟨k1,-,-,k4,-⟩:=h.use m u f;rw [k4];right;show((m+1:Nat):Int)∈uV n;exact List.mem_map.2 ⟨m,by simp [k1],rfl⟩
def cU(U:Nat->Bool):Nat->Nat
 |0=>0
 |i+1=>cU U i+bif U i then 0 else 1
theorem aV8(U:Nat->Bool) {i:Nat} :∀ {k:Nat},i<=k->cU U i<=cU U k
 |0,h=>by obtain rfl:i=0:=by omega
          exact zE _
 |k+1,h=>by
  by_cases e:i=k+1
  ·subst e;exact zE _
  ·have :=aV8 U (k:=k) (i:=i) (by omega);rw [cU];omega
theorem aQI {R:List Int} {U:Nat->Bool} :∀n,(∀i,i<n->(((i+1:Nat):Int)∈R↔U i=true))->
 (((uV n).reverse.filter λx=> !decide (x∈R)).length=cU U n/\∀i,i<n->U i=false->((uV n).reverse.filter λx=> !decide (x∈R)).getD (cU U i) 0=((i+1:Nat):Int))
 |0,_=>⟨rfl,λi hi=>by omega⟩
 |n+1,h=>by
  obtain⟨k1,k2⟩:=aQI n λi hi=>h i (by omega);have e:(uV (n+1)).reverse=(uV n).reverse++ [((n+1:Nat):Int)]:=by unfold uV;rw [List.range_succ,List.reverse_append];simp
  rw [e,List.filter_append];generalize C:(uV n).reverse.filter (λx=> !decide (x∈R))=F at *;have m:=h n (by omega)
  cases j:U n with
  |true=>
   rw [j] at m;have z: [((n+1:Nat):Int)].filter (λx=> !decide (x∈R))=[]:=by rw [zF,zdt (m.2 rfl)];rfl
   rw [z,List.append_nil,cU,j,zct];refine⟨k1,λi hi f=>?_⟩
   by_cases x:i=n
   ·subst x;rw [j] at f;cases f
   ·exact k2 i (by omega) f
  |false=>
   rw [j] at m;have z: [((n+1:Nat):Int)].filter (λx=> !decide (x∈R))=[((n+1:Nat):Int)]:=by rw [zF,zdf (λx=>absurd (m.1 x) (by decide))];rfl
   rw [z,cU,j,zcf];refine⟨by rw [zJ,k1];rfl,λi hi f=>?_⟩
   by_cases x:i=n
   ·subst x;rw [<-k1,zA,List.getElem?_append_right (zE _),Nat.sub_self];rfl
   ·have B:cU U i<F.length:=by have :=aV8 U (show i+1<=n by omega);rw [cU,f,zcf] at this;omega
    rw [zA,List.getElem?_append_left B,<-zA];exact k2 i (by omega) f
theorem aNJ {c:Dc} (h:Ok c)(z:OkP c) {t:Nat} (B:t<c.gr.length)(n:Int):
 uZ c (cR c t n).1/\OkP (cR c t n).1/\(cR c t n).2+(iB (cR c t n).1 t c.fr.length:Int)=(iB c t c.fr.length:Int):=by
 have C:∀k,iB c.x t k=iB c t k:=aDO (d:=c) (e:=c.x) rfl t
 by_cases j:n<1
 ·unfold cR;rw [zdt j,zct];exact⟨uZ.refl c,z.x,by rw [C];exact Int.zero_add _⟩
 have P:=aP7 (c:=c.x) h.x z.x (t:=t) B (n:=n) (by omega) 2;have D:t< (aL c.x t n 2).1.ls.length:=by rw [P.tr.g.p.ok.nl,P.tr.g.p.gr];exact B
 unfold cR;rw [zdf j,zcf];obtain⟨k1,k2,k3⟩:=aO3 P.tr (a:=((aL c.x t n 2).1.ls.getD t l0).A) (λx f=>by obtain⟨m,u,E,F,G,H⟩:=P.tr.g.p.ok.mem t x D (.inl f);exact⟨m,u,by rw [<-P.tr.g.p.fr];exact E,F,G,H⟩) _ (zE _);refine⟨k1.g.shr,k1.okp,?_⟩;have :=k1.cnt;rw [C] at this;exact this
structure aSL(n:Nat)(U:Nat->Bool)(d:Nat)(F:Dc):Prop where
 ok:Ok F
 fl:F.fl.length=2
 fr:F.fr.length=12
 shr:∀m u,F.fr.getD m none=some u->(oB n).fr.getD m none=some u
 cnt:d+iB F 0 12=n
 ord:∀i,i<n->U i=false->(F.fr.getD i none=none↔cU U i<d)
theorem aOH {n:Nat} (h:FaO n) {c:Dc} (f:c.fr=(oB n).fr):∀k,iB c 0 k=min k n
 |0=>by rw [iB];omega
 |k+1=>by
  rw [iB,aOH h f k];unfold evT;rw [f]
  cases j:(oB n).fr.getD k none with
  |none=>
   have :¬k<n:=λz=>by obtain⟨u,e⟩:=h.full k z;rw [j] at e;cases e
   dsimp only;rw [zcf];omega
  |some u=> obtain⟨k1,-,-,k4,m⟩:=h.use k u j;dsimp only;rw [m,k4,show(true&&(0==0))=true from rfl,zct];omega
theorem aS8 {c:Dc} (h:Ok c) {t:Nat} (E:t<c.gr.length)(n:Int):(cR c t n).1.fl.length=c.fl.length:=by
 have j:∀(d:Dc) (x:Int),(jS d x).1.fl.length=d.fl.length:=λd x=>by
  unfold jS;rcases cY d x with ⟨e,F⟩| ⟨m,u,e,rfl,D,h2⟩
  ·rw [e];rfl
  ·rw [e];dsimp only
   cases(iQ u&&decide (u.p.d=0)) with
   |false=>rfl
   |true=>exact List.length_set ..
 have C:∀v s i,(cA n v s i).1.fl.length=s.1.fl.length:=λv s i=>by
  induction i with
  |zero=>rfl
  |succ i f=>
   rw [cA]
   cases decide ((cA n v s i).2<n) with
   |false=>exact f
   |true=>
    rw [zct]
    cases((jS (cA n v s i).1 (v.getD i 0)).2==0) with
    |false=>exact f
    |true=>exact(j _ _).trans f
 have z:∀v s i,(cK n v s i).1.fl.length=s.1.fl.length:=λv s i=>by
  induction i with
  |zero=>rfl
  |succ i f=>
   rw [cK]
   cases decide ((cK n v s i).2<n) with
   |false=>exact f
   |true=>
    rw [zct]
    cases jL ((cK n v s i).1.fr.getD (v.getD (v.length-1-i) 0-1).toNat none) with
    |false=>exact f
    |true=>exact(j _ _).trans f
 have B:∀k,(aL c.x t n k).1.fl.length=c.fl.length:=λk=>by
  induction k with
  |zero=>rfl
  |succ k f=>
   rw [aL]
   cases decide ((aL c.x t n k).2<n) with
   |false=>exact f
   |true=>exact(C _ _ _).trans f
 unfold cR
 cases decide (n<1) with
 |true=>rfl
 |false=>exact(z _ _ _).trans (B 2)
theorem aYP {n:Nat} (h:FaO n) {R:List Int} (z:dM ⟨[],uV n,R⟩=true) {A:Dc} (C:A.fr=(oB n).fr)(h2:A.ls=[⟨[],uV n,R⟩]):(bP A 0).2=(uV n).reverse.filter λx=> !decide (x∈R):=by
 have D:fF A 0=⟨[],uV n,R⟩:=by unfold fF;rw [h2,show([⟨[],uV n,R⟩]:List Ls).getD 0 l0=⟨[],uV n,R⟩ from rfl];unfold pL;rw [z];rfl
 unfold bP;rw [D];unfold lU;rw [z,Bool.not_true,zcf];dsimp only;rw [aC4,List.nil_append]
 ·intro x E f;obtain⟨m,j,rfl⟩:=List.mem_map.1 (List.mem_reverse.1 E);have j:m<n:=by simpa using j
  have f:((m+1:Nat):Int)∈eC A A.fr.length:=f;have e:=tZ _ f;rw [C] at e;obtain⟨u,B⟩:=h.full m j;rw [B,(h.use m u B).2.2.2.2] at e;cases e
 ·simp
theorem bDP(U:Nat->Bool):∀i,cU U i<=i
 |0=>zE _
 |i+1=>by
  have :=bDP U i;rw [cU];cases U i
  ·rw [zcf];omega
  ·rw [zct];omega
theorem bCG {n m:Nat} (h:FaO n)(h1:1<=n)(h2:n<=10)(m1:1<=m)(m2:m<=12) {R:List Int} {U:Nat->Bool} (hR:dM ⟨[],uV n,R⟩=true)(hU:∀i,i<n->(((i+1:Nat):Int)∈R↔U i=true)):
 (nK (oC n R) (m:Int)).2=((min m n:Nat):Int)/\aSL n U (min m n) (nK (oC n R) (m:Int)).1:=by
 have hC:=aX3 h hR;have hg:(oC n R).gr.length=1:=h.gr;have hf:(oC n R).fr.length=12:=h.fr;have F:=aEK hC (oC n R).fr.length;have J:=(vA (oC n R) (oC n R).fr.length).1;obtain⟨H,pA⟩:=aO5 (c:=oC n R) h.pt (oC n R).fr.length;generalize M:gY (oC n R) (oC n R).fr.length=A at *;have D:A.fr=(oB n).fr:=by rw [J];rfl
 have gA:A.gr.length=1:=by rw [J];exact hg
 have K:A.fl.length=2:=by rw [J];exact h.fl
 have f:A.fr.length=12:=by rw [D];exact h.fr
 have H:A.ls=[⟨[],uV n,R⟩]:=H
 have oA:OkP A:=by
  refine⟨λx E=>(by rw [pA] at E;cases E),λk u N G=>?_⟩
  rw [D] at G;have :=(bH7 h R).lst k u (by rw [hf,<-f];exact N) G;rw [H];exact this
 have hd:=h.div m m1 m2;have aa:cR A 0 ((min m n:Nat):Int)=cR A 0 ((min m n:Nat):Int):=rfl;have e:=aUN F oA (t:=0) (by omega) (n:=((min m n:Nat):Int)) (by omega) (by rw [f,aOH h D];omega);obtain⟨c1,c2,c3⟩:=aNJ F oA (t:=0) (by omega) ((min m n:Nat):Int);have W:=uK F (t:=0) (by omega) ((min m n:Nat):Int);have Q:=aS8 F (t:=0) (by omega) ((min m n:Nat):Int);have z:=λj k=>aYW F (t:=0) (by omega) (n:=((min m n:Nat):Int)) (by omega) (j:=j) (m:=k);rw [aYP h hR (A:=A.x) D H] at z
 obtain⟨q1,q2⟩:=aQI n hU;rw [f,aOH h D] at c3
 have eS:nK (oC n R) (m:Int)=((cR (cR A 0 ((min m n:Nat):Int)).1 0 ((m:Int)- (cR A 0 ((min m n:Nat):Int)).2)).1,(cR A 0 ((min m n:Nat):Int)).2+(cR (cR A 0 ((min m n:Nat):Int)).1 0 ((m:Int)- (cR A 0 ((min m n:Nat):Int)).2)).2):=by
  unfold nK;rw [zdf (show ¬(m:Int)<1 by omega),zcf];unfold bCE;rw [hg,M,Int.toNat_natCast,show(oC n R).gr=(oB n).gr from rfl,hd];show((cR (cR A 0 ((min m n:Nat):Int)).1 0 ((m:Int)- (0+(cR A 0 ((min m n:Nat):Int)).2))).1,(0+(cR A 0 ((min m n:Nat):Int)).2)+(cR (cR A 0 ((min m n:Nat):Int)).1 0 ((m:Int)- (0+(cR A 0 ((min m n:Nat):Int)).2))).2)=_;rw [Int.zero_add]
 rw [eS,e];rw [e] at c3;generalize cR A 0 ((min m n:Nat):Int)=T at *;obtain⟨Z,t2,t3,-,-,-,-⟩:=W;have C:T.1.fr.length=12:=t3.trans f;obtain⟨d1,d2,d3⟩:=aNJ Z c2 (t:=0) (by omega) ((m:Int)- ((min m n:Nat):Int));obtain⟨s1,s2,s3,s4,s5,-,-⟩:=uK Z (t:=0) (by omega) ((m:Int)- ((min m n:Nat):Int));have Y:=aS8 Z (t:=0) (by omega) ((m:Int)- ((min m n:Nat):Int))
 have hz:(cR T.1 0 ((m:Int)- ((min m n:Nat):Int))).2=0/\(m<=n->(cR T.1 0 ((m:Int)- ((min m n:Nat):Int))).1=T.1.x):=by
  by_cases B:m<=n
  ·rw [show(m:Int)- ((min m n:Nat):Int)=0 by omega];unfold cR;exact⟨rfl,λ_=>rfl⟩
  ·refine⟨?_,λx=>absurd x B⟩;rw [C] at d3;omega
 generalize cR T.1 0 ((m:Int)- ((min m n:Nat):Int))=S at *;obtain⟨z1,z2⟩:=hz;rw [C] at d3;refine⟨by dsimp only;omega,⟨s1,Y.trans (Q.trans K),s3.trans C,λk u N=>by rw [<-D];exact c1 k u (d1 k u N),by dsimp only;omega,λi hi G=>?_⟩⟩;dsimp only;have O:cU U i< ((uV n).reverse.filter λx=> !decide (x∈R)).length:=by have :=aV8 U (show i+1<=n by omega);rw [cU,G,zcf] at this;omega
 have k:=z (cU U i) i O (q2 i hi G);have ab:=bDP U i;constructor
 ·intro E
  by_cases B:m<=n
  ·rw [z2 B] at E;have :=k.1 E;omega
  ·omega
 ·intro E;exact d1.gone (k.2 (by omega))
theorem bG2 {n d:Nat} {U:Nat->Bool} {F:Dc} (h:FaO n)(H:n<=10)(e:aSL n U d F) {i:Nat} (hi:i<n):iR F (i/8) (i%8)=(F.fr.getD i none).map λu=>(i,u):=by
 have G:=e.fr;have D:=e.fl
 cases f:F.fr.getD i none with
 |some u=> obtain⟨-,B,C,-,-⟩:=h.use i u (e.shr i u f);have v:=(e.ok.use i u (by omega) f).val;rw [B,C] at v;unfold iR;rw [v,zdt (show(0:Int)< ((i+1:Nat):Int) by omega),zct,show(((i+1:Nat):Int)-1).toNat=i by omega,f]
 |none=>
  unfold iR
  by_cases z:0< ((F.fl.getD (i/8) bC).E (i%8)).1
  ·exfalso;obtain⟨m,w,J,K,j,M,N⟩:=e.ok.ent (i/8) (i%8) (by omega) z;obtain⟨-,B,C,-,-⟩:=h.use m w (e.shr m w j);obtain rfl:m=i:=by omega
   rw [f] at j;cases j
  ·rw [zdf z];rfl
def gnU(F:Dc)(U:Nat->Bool)(b:Bool):Nat->Nat
 |0=>0
 |i+1=>gnU F U b i+bif (U i==b)&&(F.fr.getD i none).isNone then 1 else 0
theorem aF5 {n d:Nat} {U:Nat->Bool} {F:Dc} (e:aSL n U d F):∀i,i<=n->gnU F U false i=min (cU U i) d
 |0,_=>by rw [gnU,cU];omega
 |i+1,hi=>by
  have m:=aF5 e i (by omega);rw [gnU,cU,m]
  cases j:U i with
  |true=> rw [show((true==false)&&(F.fr.getD i none).isNone)=false from rfl,zcf,zct];rfl
  |false=>
   have k:=e.ord i (by omega) j
   cases f:F.fr.getD i none with
   |none=> have :=k.1 f;rw [show((false==false)&&(none:Option Us).isNone)=true from rfl,zct,zcf];omega
   |some u=>
    have :¬cU U i<d:=λx=>by rw [k.2 x] at f;cases f
    rw [show((false==false)&&(some u).isNone)=false from rfl,zcf,zcf];omega
theorem aWA {n d:Nat} {U:Nat->Bool} {F:Dc} (h:FaO n)(e:aSL n U d F):∀i,gnU F U false (min i n)+gnU F U true (min i n)+iB F 0 i=min i n
 |0=>by rw [show min 0 n=0 by omega,gnU,gnU,iB]
 |i+1=>by
  have m:=aWA h e i;rw [iB];unfold evT
  by_cases j:i<n
  ·rw [show min i n=i by omega] at m;rw [show min (i+1) n=i+1 by omega,gnU,gnU]
   cases f:F.fr.getD i none with
   |none=>
    cases U i
    ·rw [show((false==false)&&(none:Option Us).isNone)=true from rfl,show((false==true)&&(none:Option Us).isNone)=false from rfl];dsimp only [zct,zcf];omega
    ·rw [show((true==false)&&(none:Option Us).isNone)=false from rfl,show((true==true)&&(none:Option Us).isNone)=true from rfl];dsimp only [zct,zcf];omega
   |some u=> obtain⟨-,-,-,z,B⟩:=h.use i u (e.shr i u f);rw [show(some u).isNone=false from rfl,Bool.and_false,Bool.and_false];dsimp only;rw [B,z,show(true&&(0==0))=true from rfl,zct,zcf];omega
  ·have :F.fr.getD i none=none:=by
    cases f:F.fr.getD i none with
    |none=>rfl
    |some u=>exact absurd (h.use i u (e.shr i u f)).1 j
   rw [this,show min (i+1) n=min i n by omega];dsimp only;rw [zcf];omega
def lfO(F:Dc)(U:Nat->Bool)(n d p i:Nat):Int:=if p=0 then(d:Int)-gnU F U false i else if p=1 then(d:Int)-gnU F U false n-gnU F U true i else 0
theorem aWO {n d:Nat} {U:Nat->Bool} {F:Dc} (h:FaO n)(f:n<=10)(e:aSL n U d F) {p:Nat} (j:p<2):lfO F U n d p n=lfO F U n d (p+1) 0:=by
 have k:=aWA h e 12;have :=e.cnt;rw [show min 12 n=n by omega] at k;rcases(show p=0\/p=1 by omega) with rfl |rfl
 ·show(d:Int)-gnU F U false n=(d:Int)-gnU F U false n- (0:Nat);omega
 ·show(d:Int)-gnU F U false n-gnU F U true n=0;omega
theorem aJF(F:Dc)(U:Nat->Bool)(b:Bool):∀i,gnU F U b i<=i
 |0=>zE _
 |i+1=>by
  have :=aJF F U b i;rw [gnU];cases((U i==b)&&(F.fr.getD i none).isNone)
  ·rw [zcf];omega
  ·rw [zct];omega
theorem bGS {n d:Nat} {U:Nat->Bool} {F:Dc} (f:n<=10)(e:d<=10) {p i:Nat} (hi:i<=n): -40<=lfO F U n d p i/\lfO F U n d p i<=40:=by
 have :=aJF F U false i;have :=aJF F U false n;have :=aJF F U true i;unfold lfO;split
 ·omega
 ·split <;> omega
theorem bGR {n d:Nat} {U:Nat->Bool} {F:Dc} (e:aSL n U d F) {p i:Nat} (B:p<2)(hi:i<n):
 (((U i==true) != decide (p=1))=true->lfO F U n d p (i+1)=lfO F U n d p i)/\
 (((U i==true) != decide (p=1))=false->(p=0->((F.fr.getD i none).isSome==decide (0<lfO F U n d p i))=false)/\lfO F U n d p (i+1)=bif (F.fr.getD i none).isSome then lfO F U n d p i else lfO F U n d p i-1):=by
 have g:=aF5 e i (by omega);rcases(show p=0\/p=1 by omega) with rfl |rfl
 ·have f:∀j,lfO F U n d 0 j=(d:Int)-gnU F U false j:=λ_=>rfl;rw [f,f,gnU]
  cases z:U i with
  |true=>exact⟨λ_=>by rw [show((true==false)&&(F.fr.getD i none).isNone)=false from rfl];simp,λx=>absurd x (by decide)⟩
  |false=>
   have k:=e.ord i hi z;refine⟨λx=>absurd x (by decide),λ_=>?_⟩;rw [g]
   cases m:F.fr.getD i none with
   |none=>
    have :=k.1 m
    first |refine iE (λ_=>?_) ?_ |refine⟨λ_=>?_,?_⟩
    ·rw [zdt (show(0:Int)< (d:Int)- ((min (cU U i) d:Nat):Int) by omega)];rfl
    ·rw [show((false==false)&&(none:Option Us).isNone)=true from rfl,show(none:Option Us).isSome=false from rfl,zct,zcf];omega
   |some u=>
    have :¬cU U i<d:=λx=>by rw [k.2 x] at m;cases m
    first |refine iE (λ_=>?_) ?_ |refine⟨λ_=>?_,?_⟩
    ·rw [zdf (show ¬(0:Int)< (d:Int)- ((min (cU U i) d:Nat):Int) by omega)];rfl
    ·rw [show((false==false)&&(some u).isNone)=false from rfl,show(some u).isSome=true from rfl,zct,zcf];omega
 ·have f:∀j,lfO F U n d 1 j=(d:Int)-gnU F U false n-gnU F U true j:=λ_=>rfl;rw [f,f,gnU]
  cases z:U i with
  |false=>exact⟨λ_=>by rw [show((false==true)&&(F.fr.getD i none).isNone)=false from rfl];simp,λx=>absurd x (by decide)⟩
  |true=>
   refine⟨λx=>absurd x (by decide),λ_=>⟨λx=>by omega,?_⟩⟩
   cases m:F.fr.getD i none with
   |none=> rw [show((true==true)&&(none:Option Us).isNone)=true from rfl,show(none:Option Us).isSome=false from rfl,zct,zcf];omega
   |some u=> rw [show((true==true)&&(some u).isNone)=false from rfl,show(some u).isSome=true from rfl,zct,zcf];omega
end Go.Proofs.YtmhapcbjjpadnaaGreat
