/- Caches. -/
import Derived.Test.YtmhapcbjjpadnaaGreatQSg
import Derived.Test.YtmhapcbjjpadnaaGreatQGg
import Derived.Test.YtmhapcbjjpadnaaGreatQCg
set_option linter.all false
set_option maxRecDepth 40000
open Int renaming zero_add→zH
open List renaming getD_eq_getElem?_getD→zA,getElem?_eq_getElem→zC,getElem_mem→zD,foldl_cons→zF,getElem_of_mem→zG,not_mem_nil→zI
open Nat renaming le_refl→zE
open Option renaming getD_some→zJ
namespace Go.Proofs.YtmhapcbjjpadnaaGreat
open Go Go.Sk Go.RowKit
def Shr(c e:Dc):Prop:=∀m u,e.fr.getD m none=some u->c.fr.getD m none=some u
theorem Shr.refl(c:Dc):Shr c c:=λ_ _ h=>h
theorem Shr.trans {a b c:Dc} (h:Shr a b)(k:Shr b c):Shr a c:=λm u e=>h m u (k m u e)
theorem rM(c:Dc)(n:Int):Shr c (lA c n).1:=by
 unfold lA;rcases bN c n with ⟨e,j⟩| ⟨m,u,e,rfl,h1,h2⟩
 ·rw [e];exact Shr.refl c
 ·rw [e];dsimp only
  cases(dW u&&decide (u.p.d=0)) with
  |false=>exact Shr.refl c
  |true=>
   intro k w f;have f:(c.fr.set m none).getD k none=some w:=f
   by_cases x:k=m
   ·subst x;rw [aE _ _ _ _ h1] at f;cases f
   ·rwa [getD_set_ne _ _ _ x] at f
structure EvL(c e:Dc)(t:Nat):Prop where
 gr:∀s,s≠t->e.gr.getD s g0=c.gr.getD s g0
 ls:∀x,rS (e.ls.getD t l0) x->rS (c.ls.getD t l0) x
theorem bB0(g:List Gr) {t s:Nat} (h:s≠t):(gH g t).1.getD s g0=g.getD s g0:=by
 unfold gH
 cases decide ((g.getD t g0).chg<1) with
 |true=>rfl
 |false=>exact getD_set_ne _ _ _ h
theorem aXI {c:Dc} (h:Ok c) {m:Nat} {u:Us} (h1:m<c.fr.length)(h2:c.fr.getD m none=some u):
 (lA c ((m+1:Nat):Int)).1=c.x\/(kK (c.fr.getD m none)=true/\(lA c ((m+1:Nat):Int)).1.fr=c.fr.set m none/\(lA c ((m+1:Nat):Int)).1.gr=(gH c.gr u.ten).1/\(lA c ((m+1:Nat):Int)).1.ls=c.ls.set u.ten (kL (c.ls.getD u.ten l0) ((m+1:Nat):Int)).1):=by
 rcases bN c ((m+1:Nat):Int) with ⟨e,D⟩| ⟨B,E,e,C,j,f⟩
 ·left;unfold lA;rw [e]
 ·obtain rfl:B=m:=by omega
  rw [h2,zse] at f;subst f;unfold lA;rw [e];dsimp only
  cases z:(dW u&&decide (u.p.d=0)) with
  |false=>left;rfl
  |true=> right;refine⟨?_,rfl,rfl,rfl⟩;rw [h2];obtain⟨a,b⟩:=Bool.and_eq_true_iff.1 z;unfold kK;dsimp only;rw [a,zct,of_decide_eq_true b];rfl
theorem aXL {c:Dc} {m:Nat} (h2:c.fr.getD m none=none):(lA c ((m+1:Nat):Int)).1=c.x:=by
 rcases bN c ((m+1:Nat):Int) with ⟨e,C⟩| ⟨z,D,e,B,j,f⟩
 ·unfold lA;rw [e]
 ·obtain rfl:z=m:=by omega
  rw [h2] at f;cases f
theorem aKL {c d:Dc} (h:Ok c)(B:Shr d c) {t m:Nat} (hm:m<c.fr.length)(C:∀u,d.fr.getD m none=some u->u.ten=t) {s:Nat} (z:s≠t):(lA c ((m+1:Nat):Int)).1.gr.getD s g0=c.gr.getD s g0:=by
 cases j:c.fr.getD m none with
 |none=>rw [aXL j];rfl
 |some u=>
  have f:=C u (B m u j);rcases aXI h hm j with e | ⟨-,-,e,-⟩
  ·rw [e];rfl
  ·rw [e,f];exact bB0 _ z
structure TrG(c:Dc)(t:Nat)(n:Int)(s:Dc×Int)(b:Int):Prop where
 p:TrP c n s b
 shr:Shr c s.1
 gr:∀r,r≠t->s.1.gr.getD r g0=c.gr.getD r g0
theorem bB4 {c:Dc} {t:Nat} {n:Int} {s:Dc×Int} {b:Int} (h:TrG c t n s b) {v:List Int} (hv:∀x∈v,∃m,m<c.fr.length/\x=((m+1:Nat):Int)/\∀u,c.fr.getD m none=some u->u.ten=t):∀i,i<=v.length->TrG c t n (dB n v s i) (b+i)
 |0,_=>⟨h.p.wid (by omega),h.shr,h.gr⟩
 |i+1,hi=>by
  have f:=bB4 h hv i (by omega);have z:=aFC (v:=v) h.p (i+1);refine⟨z,?_,?_⟩<;> rw [dB] <;> cases decide ((dB n v s i).2<n)
  ·exact f.shr
  ·rw [zct]
   cases((lA (dB n v s i).1 (v.getD i 0)).2==0) with
   |false=>exact f.shr
   |true=>exact f.shr.trans (rM _ _)
  ·exact f.gr
  ·rw [zct]
   cases((lA (dB n v s i).1 (v.getD i 0)).2==0) with
   |false=>exact f.gr
   |true=>
    have e:v.getD i 0=v[i]:=by rw [zA,zC (show i<v.length by omega)];rfl
    obtain⟨m,B,C,D⟩:=hv _ (zD (show i<v.length by omega));intro r j;rw [e,C];exact(aKL f.p.ok f.shr (by rw [f.p.fr];exact B) D j).trans (f.gr r j)
theorem aWN {c:Dc} {t:Nat} {n:Int} {s:Dc×Int} {b:Int} (h:TrG c t n s b) {a:List Int} (hv:∀x∈a,∃m,m<c.fr.length/\x=((m+1:Nat):Int)/\∀u,c.fr.getD m none=some u->u.ten=t):∀i,i<=a.length->TrG c t n (cV n a s i) (b+i)
 |0,_=>⟨h.p.wid (by omega),h.shr,h.gr⟩
 |i+1,hi=>by
  have f:=aWN h hv i (by omega);have B:=aET (a:=a) h.p (i+1);refine⟨B,?_,?_⟩<;> rw [cV] <;> cases decide ((cV n a s i).2<n)
  ·exact f.shr
  ·rw [zct]
   cases kK ((cV n a s i).1.fr.getD (a.getD (a.length-1-i) 0-1).toNat none) with
   |false=>exact f.shr
   |true=>exact f.shr.trans (rM _ _)
  ·exact f.gr
  ·rw [zct]
   cases kK ((cV n a s i).1.fr.getD (a.getD (a.length-1-i) 0-1).toNat none) with
   |false=>exact f.gr
   |true=>
    have j:a.length-1-i<a.length:=by omega
    have e:a.getD (a.length-1-i) 0=a[a.length-1-i]:=by rw [zA,zC j];rfl
    obtain⟨m,C,D,E⟩:=hv _ (zD j);intro r z;rw [e,D];exact(aKL f.p.ok f.shr (by rw [f.p.fr];exact C) E z).trans (f.gr r z)
theorem TrG.scan {c:Dc} {t:Nat} {n:Int} {s:Dc×Int} {b:Int} (h:TrG c t n s b)(e:t<c.gr.length):TrG c t n (dX s.1 t (cK s.1 t).1,s.2) b:= ⟨(h.p.scan e).1,h.shr,h.gr⟩
theorem aL7 {c:Dc} (h:Ok c) {t:Nat} (f:t<c.gr.length) {n:Int} (j:0<=n):∀k,TrG c t n (aV c t n k) (64*k)
 |0=>⟨aBE h f j 0,Shr.refl c,λ_ _=>rfl⟩
 |k+1=>by
  have e:=aL7 h f j k;have C:=aBE h f j (k+1)
  suffices z:Shr c (aV c t n (k+1)).1/\∀r,r≠t->(aV c t n (k+1)).1.gr.getD r g0=c.gr.getD r g0 from⟨C,z.1,z.2⟩
  rw [aV]
  cases decide ((aV c t n k).2<n) with
  |false=>exact⟨e.shr,e.gr⟩
  |true=>
   rw [zct];have B:t< (aV c t n k).1.ls.length:=by rw [e.p.ok.nl,e.p.gr];exact f
   have D:=aLN e.p.ok B;have k:=bB4 (e.scan f) (v:=(cK (aV c t n k).1 t).2) (λx F=>by obtain⟨m,u,G,H,J,K,-⟩:=D.at_ x F;refine⟨m,by rw [<-e.p.fr];exact G,H,λw E=>?_⟩;have :=e.shr m u J;rw [E,zse] at this;rw [this];exact K) _ (zE _);exact⟨k.shr,k.gr⟩
theorem bAT {c:Dc} (h:Ok c) {t:Nat} (j:t<c.gr.length)(n:Int) {r:Nat} (B:r≠t):(fA c t n).1.gr.getD r g0=c.gr.getD r g0:=by
 unfold fA
 by_cases f:n<1
 ·rw [zdt f];rfl
 ·rw [zdf f,zcf];have e:=aL7 (c:=c.x) h.x j (n:=n) (by omega) 2;have z:t< (aV c.x t n 2).1.ls.length:=by rw [e.p.ok.nl,e.p.gr];exact j
  have k:=aWN e (a:=((aV c.x t n 2).1.ls.getD t l0).A) (λx D=>by obtain⟨m,u,E,F,G,H⟩:=e.p.ok.mem t x z (.inl D);refine⟨m,by rw [<-e.p.fr];exact E,F,λw C=>?_⟩;have :=e.shr m u G;rw [C,zse] at this;rw [this];exact H) _ (zE _);exact k.gr r B
theorem bCO {c:Dc} {m:Nat} {u:Us} (h1:m<c.fr.length)(h2:c.fr.getD m none=some u)(j:kK (c.fr.getD m none)=true):
 (lA c ((m+1:Nat):Int)).1.fr=c.fr.set m none/\(lA c ((m+1:Nat):Int)).1.ls=c.ls.set u.ten (kL (c.ls.getD u.ten l0) ((m+1:Nat):Int)).1:=by
 rcases bN c ((m+1:Nat):Int) with ⟨e,E⟩| ⟨C,F,e,D,z,f⟩
 ·have :=aEY h1 j;unfold lA at this;rw [e] at this;have this:(2:Int)=0:=this;omega
 ·obtain rfl:C=m:=by omega
  rw [h2,zse] at f;subst f;have k:=aEY h1 j;unfold lA at k⊢;rw [e] at k⊢;dsimp only at k⊢
  cases B:(dW u&&decide (u.p.d=0)) with
  |false=> rw [B] at k;have k:(7:Int)=0:=k;omega
  |true=>exact⟨rfl,rfl⟩
def evT(d:Dc)(t m:Nat):Bool:=match d.fr.getD m none with |some u=>kK (some u)&&u.ten==t |none=>false
def iE(d:Dc)(t:Nat):Nat->Nat
 |0=>0
 |k+1=>iE d t k+(bif evT d t k then 1 else 0)
theorem aEV {d e:Dc} (h:e.fr=d.fr)(t:Nat):∀k,iE e t k=iE d t k
 |0=>rfl
 |k+1=>by rw [iE,iE,aEV h t k];unfold evT;rw [h]
theorem aRP {d e:Dc} {t m:Nat} (h:e.fr=d.fr.set m none):∀k,k<=m->iE e t k=iE d t k
 |0,_=>rfl
 |k+1,f=>by rw [iE,iE,aRP h k (by omega)];unfold evT;rw [h,getD_set_ne _ _ _ (show k≠m by omega)]
theorem aRO {d e:Dc} {t m:Nat} (hm:m<d.fr.length)(h:e.fr=d.fr.set m none)(f:evT d t m=true):∀k,m<k->iE e t k+1=iE d t k
 |0,j=>by omega
 |k+1,j=>by
  rw [iE,iE]
  by_cases x:k=m
  ·subst x;rw [aRP h k (zE _),f];have :evT e t k=false:=by unfold evT;rw [h,aE _ _ _ _ hm]
   rw [this];rfl
  ·have z:=aRO hm h f k (by omega);have :evT e t k=evT d t k:=by unfold evT;rw [h,getD_set_ne _ _ _ x]
   rw [this];omega
theorem aIN {d:Dc} {t:Nat} :∀k,(∀m,m<k->evT d t m=false)->iE d t k=0
 |0,_=>rfl
 |k+1,h=>by rw [iE,aIN k λm hm=>h m (by omega),h k (by omega)];rfl
theorem aHP(e held:List Int)(n:Int):∀(r:List Int) (s:ScS),((s.v.length+r.length:Nat):Int)<=n->lE e held n r s=r.foldl (fY e held) s
 | [],s,_=>rfl
 |f::r,s,h=>by
  have j:(f::r).length=r.length+1:=rfl;rw [j] at h;rw [lE,zdt (show(s.v.length:Int)<n by omega),zct,zF];refine aHP e held n r _ ?_;have :(fY e held s f).v.length<=s.v.length+1:=by unfold fY;cases decide (f∈held)<;> cases decide (f∈e)<;> simp
  omega
theorem aAJ(e held:List Int)(s:ScS)(f:Int):(∀x∈s.v,x∈(fY e held s f).v)/\∀x∈(fY e held s f).R,x∈s.R:=by
 unfold fY
 cases decide (f∈held) with
 |true=>exact⟨λ_ h=>h,λ_ h=>h⟩
 |false=>
  cases decide (f∈e) with
  |true=>exact⟨λ_ h=>h,λ_ h=>(dA.1 h).1⟩
  |false=>exact⟨λ_ h=>List.mem_append.2 (.inl h),λ_ h=>h⟩
theorem aIW(e held:List Int):∀(r:List Int) (s:ScS),(∀x∈s.v,x∈(r.foldl (fY e held) s).v)/\∀x∈(r.foldl (fY e held) s).R,x∈s.R
 | [],s=>⟨λ_ h=>h,λ_ h=>h⟩
 |f::r,s=>by obtain⟨a,b⟩:=aAJ e held s f;obtain⟨j,m⟩:=aIW e held r (fY e held s f);exact⟨λx h=>j x (a x h),λx h=>b x (m x h)⟩
theorem aN8(e held:List Int):∀(r:List Int) (s:ScS),(∀x∈s.R,x∈e)->∀f∈r,f∉held->(f∉e->f∈(r.foldl (fY e held) s).v)/\f∉(r.foldl (fY e held) s).R
 | [],s,_,f,j,_=>absurd j zI
 |g::r,s,B,f,j,z=>by
  obtain⟨a,b⟩:=aIW e held r (fY e held s g);rcases List.mem_cons.1 j with rfl |j
  ·rw [zF]
   by_cases m:f∈e
   ·refine⟨λx=>absurd m x,λx=>?_⟩;have :=b f x;unfold fY at this;rw [zdf z,zcf,zdt m,zct] at this;exact(dA.1 this).2 rfl
   ·refine⟨λ_=>a f ?_,λx=>m (B f ((aAJ e held s f).2 f (b f x)))⟩;unfold fY;rw [zdf z,zcf,zdf m,zcf];exact List.mem_append.2 (.inr (List.mem_singleton.2 rfl))
  ·rw [zF];exact aN8 e held r _ (λx C=>B x ((aAJ e held s g).2 x C)) f j z
def QI(P:Int->Prop)(l:Ls):Prop:=∀x∈l.I,P x->x∉l.R
theorem QI.aAO {P:Int->Prop} {l:Ls} (h:QI P l):∀n,QI P (aAO n l):=λn=>by
 induction n generalizing l with
 |zero=>exact h
 |succ n z=>
  rw [YtmhapcbjjpadnaaGreat.aAO]
  cases decide ((l.A.length:Int)<=l.I.length) with
  |true=>exact h
  |false=>
   refine z ?_;unfold aI7
   by_cases e:fD l∈l.R
   ·rw [zdt e,zct];exact λx f j m=>h x f j (dA.1 m).1
   ·rw [zdf e,zcf];intro x f j;rcases List.mem_cons.1 f with rfl |f
    ·exact e
    ·exact h x f j
theorem QI.rF {P:Int->Prop} {l:Ls} (h:QI P l):QI P (rF l):=by
 unfold YtmhapcbjjpadnaaGreat.rF
 cases(!eB l) with
 |true=>exact h
 |false=>exact h.aAO _
theorem aW0 {d:Dc} (h:Ok d) {t:Nat} (m:t<d.ls.length):((∀x∈(cK d t).1.I,x∈(gB d t).I)/\∀x∈(gB d t).I,x∉eK d d.fr.length->(x∉(gB d t).R->x∈(cK d t).2)/\x∉(cK d t).1.R):=by
 have hc:=(bX _).1 (h.ls t m);obtain⟨e,-⟩:=hc.rF;have e:gZ (gB d t):=e;have z:=ScK.scan e (eK d d.fr.length) ((gB d t).I.length:Int) (gB d t).I.reverse _ (λx f=>List.mem_reverse.1 f) (ScK.start e);unfold cK mO;rw [(bX _).2 e,Bool.not_true,zcf];dsimp only;refine⟨λx f=>z.perm.mem_iff.1 f,λx f j=>?_⟩;rw [aHP _ _ _ _ _ (by simp)];exact aN8 (gB d t).R (eK d d.fr.length) (gB d t).I.reverse ⟨(gB d t).I,(gB d t).R,[]⟩ (λ_ h=>h) x (List.mem_reverse.2 f) j
theorem fK.x {c:Dc} (hm:fK c):fK c.x:=hm.keep rfl rfl rfl
theorem fK.lA {c:Dc} (h:Ok c)(hm:fK c)(n:Int):fK (lA c n).1:=by
 unfold YtmhapcbjjpadnaaGreat.lA;rcases bN c n with ⟨e,f⟩| ⟨m,u,e,rfl,h1,h2⟩
 ·rw [e];exact hm.x
 ·rw [e];dsimp only
  cases(dW u&&decide (u.p.d=0)) with
  |false=>exact hm.x
  |true=>exact(hm.gone h h1 h2 0).keep rfl rfl rfl
theorem aHS {d:Dc} (h:Ok d) {t:Nat} (j:t<d.ls.length):((cK d t).1.A++(cK d t).1.I).Perm ((d.ls.getD t l0).A++(d.ls.getD t l0).I):=by have hc:=(bX _).1 (h.ls t j);obtain⟨e,f⟩:=hc.rF;obtain⟨z,m⟩:=e.scan ((gB d t).I.length:Int) (eK d d.fr.length);exact m.trans f
theorem fK.scan {d:Dc} (h:Ok d)(hm:fK d) {t:Nat} (f:t<d.ls.length):fK (dX d t (cK d t).1):=by refine⟨hm.pgs,λm u k1 k2=>?_⟩;have k:=hm.lst m u k1 k2;refine aF4 k λe=>?_;rw [e] at k;exact List.mem_append.1 ((aHS h f).mem_iff.2 (List.mem_append.2 k))
structure LsS(d e:Dc)(t:Nat):Prop where
 I:∀x∈(e.ls.getD t l0).I,x∈(d.ls.getD t l0).I
 R:∀x∈(e.ls.getD t l0).R,x∈(d.ls.getD t l0).R
theorem LsS.refl(d:Dc)(t:Nat):LsS d d t:=⟨λ_ h=>h,λ_ h=>h⟩
theorem LsS.trans {a b c:Dc} {t:Nat} (h:LsS a b t)(k:LsS b c t):LsS a c t:=⟨λx e=>h.I x (k.I x e),λx e=>h.R x (k.R x e)⟩
theorem bAB(l:Ls)(f:Int):(∀x∈(kL l f).1.I,x∈l.I)/\∀x∈(kL l f).1.R,x∈l.R:=by
 unfold kL
 cases(!eB l) with
 |true=>exact⟨λ_ h=>h,λ_ h=>h⟩
 |false=>
  cases(!cA f) with
  |true=>exact⟨λ_ h=>h,λ_ h=>h⟩
  |false=>
   cases(!lH l f) with
   |true=>exact⟨λ_ h=>h,λ_ h=>h⟩
   |false=>exact⟨λ_ h=>(dA.1 h).1,λ_ h=>(dA.1 h).1⟩
theorem bCN(c:Dc)(n:Int)(t:Nat):LsS c (lA c n).1 t:=by
 unfold lA;rcases bN c n with ⟨e,C⟩| ⟨m,u,e,rfl,h1,h2⟩
 ·rw [e];exact⟨λ_ h=>h,λ_ h=>h⟩
 ·rw [e];dsimp only
  cases(dW u&&decide (u.p.d=0)) with
  |false=>exact⟨λ_ h=>h,λ_ h=>h⟩
  |true=>
   obtain⟨a,b⟩:=bAB (c.ls.getD u.ten l0) ((m+1:Nat):Int)
   have j:∀x:Ls,x=(c.ls.set u.ten (kL (c.ls.getD u.ten l0) ((m+1:Nat):Int)).1).getD t l0->(∀y∈x.I,y∈(c.ls.getD t l0).I)/\∀y∈x.R,y∈(c.ls.getD t l0).R:=λx f=>by
    by_cases B:t=u.ten
    ·subst B
     by_cases z:u.ten<c.ls.length
     ·rw [aE _ _ _ _ z] at f;subst f;exact⟨a,b⟩
     ·rw [dI _ _ (Nat.le_of_not_lt z)] at f;subst f;exact⟨λ_ h=>h,λ_ h=>h⟩
    ·rw [getD_set_ne _ _ _ B] at f;subst f;exact⟨λ_ h=>h,λ_ h=>h⟩
   obtain⟨k1,k2⟩:=j _ rfl;exact⟨k1,k2⟩
structure TrK(c:Dc)(t:Nat)(n:Int)(s:Dc×Int)(b:Int):Prop where
 g:TrG c t n s b
 okp:fK s.1
 cnt:s.2+(iE s.1 t c.fr.length:Int)=(iE c t c.fr.length:Int)
theorem TrK.ev {c:Dc} {t:Nat} {n:Int} {s:Dc×Int} {b:Int} (h:TrK c t n s b) {m:Nat} {u:Us} (hm:m<c.fr.length)(j:s.1.fr.getD m none=some u)(B:u.ten=t)(f:kK (s.1.fr.getD m none)=true)(E:s.2<n):
 TrK c t n ((lA s.1 ((m+1:Nat):Int)).1,s.2+1) (b+1)/\(lA s.1 ((m+1:Nat):Int)).1.fr.getD m none=none:=by
 have e:m<s.1.fr.length:=by rw [h.g.p.fr];exact hm
 obtain⟨e1,F⟩:=bCO e j f;refine⟨⟨⟨h.g.p.ev E _,h.g.shr.trans (rM _ _),λr z=>?_⟩,fK.lA h.g.p.ok h.okp _,?_⟩,by rw [e1];exact aE _ _ _ _ e⟩
 ·refine(aKL h.g.p.ok (Shr.refl s.1) e (λw C=>?_) z).trans (h.g.gr r z);rw [j,zse] at C;rw [<-C];exact B
 ·have D:evT s.1 t m=true:=by unfold evT;rw [j] at f⊢;dsimp only;rw [f,B];simp
  have :=aRO e e1 D c.fr.length hm;have :=h.cnt;dsimp only;omega
theorem TrK.wid {c:Dc} {t:Nat} {n:Int} {s:Dc×Int} {b f:Int} (h:TrK c t n s b)(e:b<=f):TrK c t n s f:=⟨⟨h.g.p.wid e,h.g.shr,h.g.gr⟩,h.okp,h.cnt⟩
theorem bB5 {c:Dc} {t:Nat} {n:Int} {s:Dc×Int} {b:Int} (h:TrK c t n s b) {v:List Int} (hv:aWL s.1 t v):∀i,i<=v.length->
 TrK c t n (dB n v s i) (b+i)/\Shr s.1 (dB n v s i).1/\LsS s.1 (dB n v s i).1 t/\((dB n v s i).2<n->∀j m,j<i->v.getD j 0=((m+1:Nat):Int)->(dB n v s i).1.fr.getD m none=none)
 |0,_=>⟨h.wid (by omega),Shr.refl _,LsS.refl _ _,λ_ j m N=>by omega⟩
 |i+1,hi=>by
  obtain⟨k,k2,k3,k4⟩:=bB5 h hv i (by omega)
  by_cases z:(dB n v s i).2<n
  ·obtain⟨m,O,G,E⟩:=bB6 hv (n:=n) (s:=s) rfl (show i<v.length by omega);obtain⟨e1,F⟩:=aK5 hv (n:=n) (s:=s) rfl (show i<v.length by omega) (by rw [k.g.p.fr,h.g.p.fr]) z;rw [G] at e1 F
   cases D:(dB n v s i).1.fr.getD m none with
   |none=>rw [D] at E;cases E
   |some u=>
    have B:u.ten=t:=by
     have e:v.getD i 0=v[i]:=by rw [zA,zC (show i<v.length by omega)];rfl
     obtain⟨f,R,Q,H,J,K,-⟩:=hv.at_ _ (zD (show i<v.length by omega));rw [<-e,G] at H;obtain rfl:m=f:=by omega
     have :=k2 m u D;rw [J,zse] at this;rw [<-this];exact K
    obtain⟨q1,q2⟩:=k.ev (by rw [<-h.g.p.fr];exact O) D B E z;rw [F];refine⟨q1.wid (by omega),k2.trans (rM _ _),k3.trans (bCN _ _ _),λ_ j f N C=>?_⟩
    by_cases x:j=i
    ·subst x;obtain rfl:f=m:=by omega
     exact q2
    ·have :=k4 z j f (by omega) C
     cases M:(lA (dB n v s i).1 ((m+1:Nat):Int)).1.fr.getD f none with
     |none=>rfl
     |some w=>
      have :=rM _ _ f w M
      simp_all
  ·have e:dB n v s (i+1)=dB n v s i:=by rw [dB,zdf z,zcf]
   rw [e];exact⟨k.wid (by omega),k2,k3,λx=>absurd x z⟩
theorem aCG {c:Dc} {m:Nat} :∀k,((m+1:Nat):Int)∈eK c k->kK (c.fr.getD m none)=false
 |0,h=>absurd h zI
 |k+1,h=>by
  rw [eK] at h
  cases e:kK (c.fr.getD k none) with
  |true=>rw [e,zct] at h;exact aCG k h
  |false=>
   rw [e,zcf] at h;rcases List.mem_append.1 h with h |h
   ·exact aCG k h
   ·obtain rfl:m=k:=by have :=List.mem_singleton.1 h;omega
    exact e
def aFU(d:Dc)(x:Int):Prop:=kK (d.fr.getD (x-1).toNat none)=true
theorem aWZ {d e:Dc} (h:Shr d e) {x:Int} (j:aFU e x):aFU d x:=by
 unfold aFU at *
 cases f:e.fr.getD (x-1).toNat none with
 |none=>rw [f] at j;cases j
 |some u=>rw [h _ u f,<-f];exact j
structure bQU(c:Dc)(t:Nat)(n:Int)(k:Nat):Prop where
 tr:TrK c t n (aV c t n k) (64*k)
 q1:1<=k->(aV c t n k).2<n->QI (aFU (aV c t n k).1) ((aV c t n k).1.ls.getD t l0)
 q2:2<=k->(aV c t n k).2<n->∀x∈((aV c t n k).1.ls.getD t l0).I,¬aFU (aV c t n k).1 x
theorem aZT {c:Dc} (h:Ok c)(Y:fK c) {t:Nat} (H:t<c.gr.length) {n:Int} (M:0<=n):∀k,bQU c t n k
 |0=>⟨⟨aL7 h H M 0,Y,zH _⟩,λx=>by omega,λx=>by omega⟩
 |k+1=>by
  have f:=aZT h Y H M k;have T:=aL7 h H M (k+1)
  by_cases z:(aV c t n k).2<n
  ·have e:aV c t n (k+1)=dB n (cK (aV c t n k).1 t).2 (dX (aV c t n k).1 t (cK (aV c t n k).1 t).1,(aV c t n k).2) (cK (aV c t n k).1 t).2.length:=by rw [aV,zdt z,zct]
   have C:t< (aV c t n k).1.ls.length:=by rw [f.tr.g.p.ok.nl,f.tr.g.p.gr];exact H
   have Z:=aLN f.tr.g.p.ok C;obtain⟨sI,sA⟩:=aW0 f.tr.g.p.ok C;have q1:=f.q1;have J:∀x∈((aV c t n k).1.ls.getD t l0).A++((aV c t n k).1.ls.getD t l0).I,1<=x:=λx E=>by obtain⟨m,u,m1,m2,-⟩:=f.tr.g.p.ok.mem t x C (List.mem_append.1 E);omega
   have D:=aHS f.tr.g.p.ok C
   have k0:TrK c t n (dX (aV c t n k).1 t (cK (aV c t n k).1 t).1,(aV c t n k).2) (64*k):=⟨f.tr.g.scan H,f.tr.okp.scan f.tr.g.p.ok C,by
    have :=f.tr.cnt;have e:iE (dX (aV c t n k).1 t (cK (aV c t n k).1 t).1) t c.fr.length=iE (aV c t n k).1 t c.fr.length:=aEV (d:=(aV c t n k).1) (e:=dX (aV c t n k).1 t (cK (aV c t n k).1 t).1) rfl t _;dsimp only;rw [e];exact this⟩
   have N:aWL (dX (aV c t n k).1 t (cK (aV c t n k).1 t).1) t (cK (aV c t n k).1 t).2:=⟨Z.nodup,Z.at_⟩;obtain⟨f1,f2,f3,f4⟩:=bB5 k0 N _ (zE _);have F:(dX (aV c t n k).1 t (cK (aV c t n k).1 t).1).ls.getD t l0=(cK (aV c t n k).1 t).1:=aE _ _ _ _ C;have aa:∀i,dB n (cK (aV c t n k).1 t).2 (dX (aV c t n k).1 t (cK (aV c t n k).1 t).1,(aV c t n k).2) i=dB n (cK (aV c t n k).1 t).2 (dX (aV c t n k).1 t (cK (aV c t n k).1 t).1,(aV c t n k).2) i:=λ_=>rfl;rw [<-e] at f1 f2 f3 f4
   have ab:=(aHR f.tr.g.p.ok C).2.1
   have nh:∀x∈((aV c t n (k+1)).1.ls.getD t l0).I,aFU (aV c t n (k+1)).1 x->x∈(gB (aV c t n k).1 t).I/\x∉eK (aV c t n k).1 (aV c t n k).1.fr.length/\aFU (aV c t n k).1 x/\1<=x:=λx E hc=>by
    have a:=f3.I x E;rw [F] at a;have B:aFU (aV c t n k).1 x:=aWZ f2 hc;have O:1<=x:=J x (D.mem_iff.1 (List.mem_append.2 (.inr a)));refine⟨sI x a,λhh=>?_,B,O⟩;have e1:x=(((x-1).toNat+1:Nat):Int):=by omega
    rw [e1] at hh;have :=aCG _ hh;unfold aFU at B;rw [this] at B;cases B
   refine⟨⟨T,f1.okp,f1.cnt⟩,λ_ _ x E hc hr=>?_,λh2 G x E hc=>?_⟩
   ·obtain⟨a,b,-,-⟩:=nh x E hc;have :=f3.R x hr;rw [F] at this;exact(sA x a b).2 this
   ·obtain⟨a,b,d,x1⟩:=nh x E hc;have hq:=(q1 (by omega) z).rF;have hb:x∉(gB (aV c t n k).1 t).R:=hq x a d;have Q:=(sA x a b).1 hb;obtain⟨j,W,K⟩:=zG Q;have e1:x=(((x-1).toNat+1:Nat):Int):=by omega
    have :=f4 G j (x-1).toNat W (by rw [zA,zC W,zJ,K];exact e1);unfold aFU at hc;rw [this] at hc;cases hc
  ·have e:aV c t n (k+1)=aV c t n k:=by rw [aV,zdf z,zcf]
   refine⟨⟨T,by rw [e];exact f.tr.okp,by rw [e];exact f.tr.cnt⟩,λ_ x=>?_,λ_ x=>?_⟩
   ·rw [e] at x;exact absurd x z
   ·rw [e] at x;exact absurd x z
theorem aWO {c:Dc} {t:Nat} {n:Int} {s:Dc×Int} {b:Int} (h:TrK c t n s b) {a:List Int} (H:∀x∈a,∃m u,m<c.fr.length/\x=((m+1:Nat):Int)/\s.1.fr.getD m none=some u/\u.ten=t):∀i,i<=a.length->
 TrK c t n (cV n a s i) (b+i)/\Shr s.1 (cV n a s i).1/\((cV n a s i).2<n->∀j m,j<i->a.getD (a.length-1-j) 0=((m+1:Nat):Int)->kK ((cV n a s i).1.fr.getD m none)=false)
 |0,_=>⟨h.wid (by omega),Shr.refl _,λ_ j m E=>by omega⟩
 |i+1,hi=>by
  obtain⟨k,k2,k4⟩:=aWO h H i (by omega)
  by_cases D:(cV n a s i).2<n
  ·have E:a.length-1-i<a.length:=by omega
   have e:a.getD (a.length-1-i) 0=a[a.length-1-i]:=by rw [zA,zC E];rfl
   obtain⟨m,u,N,O,Q,R⟩:=H _ (zD E);have M:a.getD (a.length-1-i) 0=((m+1:Nat):Int):=e.trans O;have f:cV n a s (i+1)=bif kK ((cV n a s i).1.fr.getD m none) then((lA (cV n a s i).1 ((m+1:Nat):Int)).1,(cV n a s i).2+1) else cV n a s i:=by rw [cV,zdt D,zct,M,show(((m+1:Nat):Int)-1).toNat=m by omega]
   cases C:kK ((cV n a s i).1.fr.getD m none) with
   |true=>
    rw [C,zct] at f
    cases G:(cV n a s i).1.fr.getD m none with
    |none=>rw [G] at C;cases C
    |some w=>
     have J:=k2 m w G;rw [Q,zse] at J;obtain⟨q1,q2⟩:=k.ev N G (by rw [<-J];exact R) C D;rw [f];refine⟨q1.wid (by omega),k2.trans (rM _ _),λ_ j B F z=>?_⟩
     by_cases x:j=i
     ·subst x;obtain rfl:B=m:=by omega
      dsimp only;rw [q2];rfl
     ·have :=k4 D j B (by omega) z;dsimp only
      cases K:(lA (cV n a s i).1 ((m+1:Nat):Int)).1.fr.getD B none with
      |none=>rfl
      |some T=>
       have :=rM _ _ B T K
       simp_all
   |false=>
    rw [C,zcf] at f;rw [f];refine⟨k.wid (by omega),k2,λ_ j B F z=>?_⟩
    by_cases x:j=i
    ·subst x;obtain rfl:B=m:=by omega
     exact C
    ·exact k4 D j B (by omega) z
  ·have e:cV n a s (i+1)=cV n a s i:=by rw [cV,zdf D,zcf]
   rw [e];exact⟨k.wid (by omega),k2,λx=>absurd x D⟩
theorem aW4 {c:Dc} (h:Ok c)(hp:fK c) {t:Nat} (M:t<c.gr.length) {n:Int} (hn:1<=n)(hc:n<=(iE c t c.fr.length:Int)):(fA c t n).2=n:=by
 have hx:∀k,iE c.x t k=iE c t k:=aEV (d:=c) (e:=c.x) rfl t;have P:=aZT (c:=c.x) h.x hp.x (t:=t) M (n:=n) (by omega) 2;have Z:t< (aV c.x t n 2).1.ls.length:=by rw [P.tr.g.p.ok.nl,P.tr.g.p.gr];exact M
 have E:=(aBR h M n).2.2.2.2.2.1 hn;unfold fA at E⊢;rw [zdf (show ¬n<1 by omega),zcf] at E⊢;obtain⟨k1,k2,k3⟩:=aWO P.tr (a:=((aV c.x t n 2).1.ls.getD t l0).A) (λx N=>by obtain⟨m,u,m1,m2,m3,m4⟩:=P.tr.g.p.ok.mem t x Z (.inl N);exact⟨m,u,by rw [<-P.tr.g.p.fr];exact m1,m2,m3,m4⟩) _ (zE _);generalize W:cV n ((aV c.x t n 2).1.ls.getD t l0).A (aV c.x t n 2) ((aV c.x t n 2).1.ls.getD t l0).A.length=f at *
 by_cases F:f.2<n
 ·exfalso
  have z:∀i,(cV n ((aV c.x t n 2).1.ls.getD t l0).A (aV c.x t n 2) i).2<n\/f=cV n ((aV c.x t n 2).1.ls.getD t l0).A (aV c.x t n 2) i\/((aV c.x t n 2).1.ls.getD t l0).A.length<i:=λi=>by
   by_cases a:(cV n ((aV c.x t n 2).1.ls.getD t l0).A (aV c.x t n 2) i).2<n
   ·exact .inl a
   ·by_cases b:i<=((aV c.x t n 2).1.ls.getD t l0).A.length
    ·exact .inr (.inl (by rw [<-W];exact uN a _ b))
    ·exact .inr (.inr (by omega))
  have J:(aV c.x t n 2).2<n:=by
   rcases z 0 with a |a |a
   ·exact a
   ·have a:f=aV c.x t n 2:=a;rw [<-a];exact F
   ·omega
  have hz:iE f.1 t c.fr.length=0:=aIN _ λm hm=>by
   cases C:evT f.1 t m with
   |false=>rfl
   |true=>
    exfalso;unfold evT at C
    cases H:f.1.fr.getD m none with
    |none=>rw [H] at C;cases C
    |some u=>
     rw [H] at C;dsimp only at C;obtain⟨O,B⟩:=Bool.and_eq_true_iff.1 C;have B:u.ten=t:=by simpa using B
     have G:=k2 m u H;have D:=P.tr.okp.lst m u (by rw [P.tr.g.p.fr];exact hm) G;rw [B] at D;rcases D with R |T
     ·obtain⟨i,Y,K⟩:=zG R
      have :=k3 F (((aV c.x t n 2).1.ls.getD t l0).A.length-1-i) m (by omega) (by
       rw [show((aV c.x t n 2).1.ls.getD t l0).A.length-1- (((aV c.x t n 2).1.ls.getD t l0).A.length-1-i)=i by omega,zA,zC Y,zJ,K])
      rw [H] at this;rw [O] at this;cases this
     ·refine P.q2 (by omega) J _ T ?_;unfold aFU;rw [show(((m+1:Nat):Int)-1).toNat=m by omega,G];exact O
  have j:=k1.cnt;have e1:iE f.1 t c.x.fr.length=0:=hz;rw [e1,hx] at j;have Q:c.x.fr.length=c.fr.length:=rfl;rw [Q] at j;omega
 ·omega
theorem bKB {c:Dc} {t:Nat} {n:Int} (h:n<1):fA c t n=(c.x,0):=by unfold fA;rw [zdt h,zct]
theorem fK.age {c:Dc} (f:fK c):∀k,fK (gJ c k)/\(gJ c k).fr=c.fr
 |0=>⟨f.x,rfl⟩
 |k+1=>by
  obtain⟨j,e⟩:=fK.age f k
  have step:fK ((gJ c k).pts ((gJ c k).pt.map (jC ((k+1:Nat):Int)))):=fK.pts j λx m=>by
   obtain⟨y,z,rfl⟩:=List.mem_map.1 m;have :(jC ((k+1:Nat):Int) y).frame=y.frame:=by unfold jC;cases(y.frame==((k+1:Nat):Int))<;> rfl
   rw [this];exact j.pgs y z
  rw [gJ];split
  ·cases yB (gJ c k).pt ((k+1:Nat):Int) (gJ c k).pt.length with
   |true=>exact⟨step.acc _ _,e⟩
   |false=>exact⟨step,e⟩
  ·exact⟨step,e⟩
theorem aRW {l:List Gr} (f:l.length=2)(e:jR (l.getD 0 g0)=0):∀(n:Nat) (j:Int),j+(n:Int)<=jR (l.getD 1 g0)->divN l 0 n [0,j]=([0,j+(n:Int)],0)
 |0,j,_=>by simp [divN]
 |n+1,j,h=>by
  have B:iT l [0,j] 0 0=0:=by unfold iT;rw [e];rfl
  have e1:iT l [0,j] 0 1=jR (l.getD 1 g0)-j:=rfl;have m:cP l [0,j] 0 1=(-1,0):=by show(bif decide ((0:Int)<iT l [0,j] 0 0) then(((0:Nat):Int),iT l [0,j] 0 0) else(-1,0))=(-1,0);rw [B];rfl
  have z:(cP l [0,j] 0 2).1=1:=by show(bif decide ((cP l [0,j] 0 1).2<iT l [0,j] 0 1) then(((1:Nat):Int),iT l [0,j] 0 1) else cP l [0,j] 0 1).1=1;rw [m,e1,zdt (show(0:Int)<jR (l.getD 1 g0)-j by omega)];rfl
  rw [divN,f,z];show divN l 0 n [0,j+1]=_;rw [aRW f e n (j+1) (by omega)];rw [show j+1+(n:Int)=j+((n+1:Nat):Int) by omega]
theorem aXA {l:List Gr} (f:l.length=2)(j:jR (l.getD 0 g0)=0) {n:Nat} (h:(n:Int)<=jR (l.getD 1 g0)):(aA7 l n 2).1=[0,(n:Int)]:=by
 have e:aA7 l n 1=([0,(n:Int)],0):=by show divN l 0 n (List.replicate l.length 0)=_;rw [f];have :=aRW f j n 0 (by omega);rw [zH] at this;exact this
 show(divN l 1 (aA7 l n 1).2 (aA7 l n 1).1).1=_;rw [e];rfl
theorem bEF {c:Dc} (h:Ok c)(F:fK c)(h2:c.gr.length=2) {k:Nat} (J:1<=k)(D:(c.gr.getD 0 g0).chg<=(c.gr.getD 0 g0).pro)(h1:(k:Int)<=(c.gr.getD 1 g0).chg- (c.gr.getD 1 g0).pro)
 (hc:k<=iE c 1 c.fr.length):(bAM c k).1.gr.getD 0 g0=c.gr.getD 0 g0:=by
 have G:jR (c.gr.getD 0 g0)=0:=by unfold jR;rw [zdt D];rfl
 have H:(k:Int)<=jR (c.gr.getD 1 g0):=by unfold jR;rw [zdf (show ¬(c.gr.getD 1 g0).chg<=(c.gr.getD 1 g0).pro by omega),zcf];exact h1
 have a:=aFM h c.fr.length;obtain⟨z,m⟩:=F.age c.fr.length;have j:(gJ c c.fr.length).gr=c.gr:=by rw [(vZ c c.fr.length).1]
 unfold bAM;rw [aXA h2 G H,h2];generalize gJ c c.fr.length=A at *;have e1:rA A [0,(k:Int)] 1=(A.x,0):=by show((fA A 0 0).1,(0:Int)+(fA A 0 0).2)=_;rw [bKB (by decide)];rfl
 have f:(fA A.x 1 (k:Int)).2=(k:Int):=by
  refine aW4 a.x z.x (by show 1<A.gr.length;rw [j,h2];decide) (by omega) ?_;have :iE A.x 1 A.x.fr.length=iE c 1 c.fr.length:=by rw [show A.x.fr.length=c.fr.length by show A.fr.length=_;rw [m]];exact aEV (d:=c) (e:=A.x) m 1 _
  rw [this];omega
 have E:(fA A.x 1 (k:Int)).1.gr.getD 0 g0=c.gr.getD 0 g0:=by rw [bAT a.x (by show 1<A.gr.length;rw [j,h2];decide) (k:Int) (show(0:Nat)≠1 by decide)];show A.gr.getD 0 g0=_;rw [j]
 have B:rA A [0,(k:Int)] 2=((fA A.x 1 (k:Int)).1,(k:Int)):=by show((fA (rA A [0,(k:Int)] 1).1 1 (k:Int)).1,(rA A [0,(k:Int)] 1).2+(fA (rA A [0,(k:Int)] 1).1 1 (k:Int)).2)=_;rw [e1,f];show(_,(0:Int)+(k:Int))=_;rw [zH]
 rw [B];generalize fA A.x 1 (k:Int)=T at *;have C:mT (T.1,(k:Int)) (k:Int) 1=(T.1.x,(k:Int)+0):=by show((fA T.1 0 ((k:Int)- (k:Int))).1,(k:Int)+(fA T.1 0 ((k:Int)- (k:Int))).2)=_;rw [bKB (show(k:Int)- (k:Int)<1 by omega)]
 show((fA (mT (T.1,(k:Int)) (k:Int) 1).1 1 ((k:Int)- (mT (T.1,(k:Int)) (k:Int) 1).2)).1).gr.getD 0 g0=_;rw [C,bKB (show(k:Int)- ((k:Int)+0)<1 by omega)];exact E
theorem bAW {c:Dc} (h:Ok c) {a:Nat} (e:a<c.gr.length)(n:Int) {r:Nat} (f:r≠a):(aDA c (a:Int) n).1.gr.getD r g0=c.gr.getD r g0/\(aDA c (a:Int) n).1.gr.length=c.gr.length:=by rw [aHW e];exact⟨bAT h e n f,(aBR h e n).2.1⟩
theorem bAN {c:Dc} (h:Ok c)(j:fK c)(h2:c.gr.length=2) {k:Nat} (f:1<=k)(e:(c.gr.getD 0 g0).chg<=(c.gr.getD 0 g0).pro)(h1:(k:Int)<=(c.gr.getD 1 g0).chg- (c.gr.getD 1 g0).pro)
 (hc:k<=iE c 1 c.fr.length):(oI c (k:Int)).1.gr.getD 0 g0=c.gr.getD 0 g0:=by
 unfold oI;rw [zdf (show ¬(k:Int)<1 by omega),zcf,Int.toNat_natCast];exact bEF h j h2 f e h1 hc
end Go.Proofs.YtmhapcbjjpadnaaGreat
