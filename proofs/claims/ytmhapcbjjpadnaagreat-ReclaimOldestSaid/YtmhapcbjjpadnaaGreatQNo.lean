/- Caches. -/
import Derived.Test.YtmhapcbjjpadnaaGreatQSo
import Derived.Test.YtmhapcbjjpadnaaGreatQGo
import Derived.Test.YtmhapcbjjpadnaaGreatQCo
set_option linter.all false
set_option maxRecDepth 40000
open List renaming getD_eq_getElem?_getD→zA,getElem?_eq_getElem→zC,getElem_mem→zD,foldl_cons→zE,getElem_of_mem→zG,not_mem_nil→zH
open Nat renaming le_refl→zF
open Option renaming getD_some→zI
namespace Go.Proofs.YtmhapcbjjpadnaaGreat
open Go Go.Sk Go.RowKit
def uZ(c e:Dc):Prop:=∀m u,e.fr.getD m none=some u->c.fr.getD m none=some u
theorem uZ.refl(c:Dc):uZ c c:=λ_ _ h=>h
theorem uZ.trans {a b c:Dc} (h:uZ a b)(k:uZ b c):uZ a c:=λm u e=>h m u (k m u e)
theorem nX(c:Dc)(n:Int):uZ c (jS c n).1:=by
 unfold jS;rcases cY c n with ⟨e,z⟩| ⟨m,u,e,rfl,j,h2⟩
 ·rw [e];exact uZ.refl c
 ·rw [e];dsimp only
  cases(iQ u&&decide (u.p.d=0)) with
  |false=>exact uZ.refl c
  |true=>
   intro k w f;have f:(c.fr.set m none).getD k none=some w:=f
   by_cases x:k=m
   ·subst x;rw [aH _ _ _ _ j] at f;cases f
   ·rwa [getD_set_ne _ _ _ x] at f
structure EvL(c e:Dc)(t:Nat):Prop where
 gr:∀s,s≠t->e.gr.getD s g0=c.gr.getD s g0
 ls:∀x,vK (e.ls.getD t l0) x->vK (c.ls.getD t l0) x
theorem aZ1(g:List Gr) {t s:Nat} (h:s≠t):(gC g t).1.getD s g0=g.getD s g0:=by
 unfold gC
 cases decide ((g.getD t g0).chg<1) with
 |true=>rfl
 |false=>exact getD_set_ne _ _ _ h
theorem aVT {c:Dc} (h:Ok c) {m:Nat} {u:Us} (D:m<c.fr.length)(h2:c.fr.getD m none=some u):
 (jS c ((m+1:Nat):Int)).1=c.x\/(jL (c.fr.getD m none)=true/\(jS c ((m+1:Nat):Int)).1.fr=c.fr.set m none/\(jS c ((m+1:Nat):Int)).1.gr=(gC c.gr u.ten).1/\(jS c ((m+1:Nat):Int)).1.ls=c.ls.set u.ten (kE (c.ls.getD u.ten l0) ((m+1:Nat):Int)).1):=by
 rcases cY c ((m+1:Nat):Int) with ⟨e,E⟩| ⟨B,F,e,C,j,f⟩
 ·left;unfold jS;rw [e]
 ·obtain rfl:B=m:=by omega
  rw [h2,zse] at f;subst f;unfold jS;rw [e];dsimp only
  cases z:(iQ u&&decide (u.p.d=0)) with
  |false=>left;rfl
  |true=> right;refine⟨?_,rfl,rfl,rfl⟩;rw [h2];obtain⟨a,b⟩:=Bool.and_eq_true_iff.1 z;unfold jL;dsimp only;rw [a,zct,of_decide_eq_true b];rfl
theorem aVW {c:Dc} {m:Nat} (h2:c.fr.getD m none=none):(jS c ((m+1:Nat):Int)).1=c.x:=by
 rcases cY c ((m+1:Nat):Int) with ⟨e,C⟩| ⟨z,D,e,B,j,f⟩
 ·unfold jS;rw [e]
 ·obtain rfl:z=m:=by omega
  rw [h2] at f;cases f
theorem aQF {c d:Dc} (h:Ok c)(B:uZ d c) {t m:Nat} (hm:m<c.fr.length)(C:∀u,d.fr.getD m none=some u->u.ten=t) {s:Nat} (z:s≠t):(jS c ((m+1:Nat):Int)).1.gr.getD s g0=c.gr.getD s g0:=by
 cases j:c.fr.getD m none with
 |none=>rw [aVW j];rfl
 |some u=>
  have f:=C u (B m u j);rcases aVT h hm j with e | ⟨-,-,e,-⟩
  ·rw [e];rfl
  ·rw [e,f];exact aZ1 _ z
structure TrG(c:Dc)(t:Nat)(n:Int)(s:Dc×Int)(b:Int):Prop where
 p:TrP c n s b
 shr:uZ c s.1
 gr:∀r,r≠t->s.1.gr.getD r g0=c.gr.getD r g0
theorem aZ5 {c:Dc} {t:Nat} {n:Int} {s:Dc×Int} {b:Int} (h:TrG c t n s b) {v:List Int} (hv:∀x∈v,∃m,m<c.fr.length/\x=((m+1:Nat):Int)/\∀u,c.fr.getD m none=some u->u.ten=t):∀i,i<=v.length->TrG c t n (cA n v s i) (b+i)
 |0,_=>⟨h.p.wid (by omega),h.shr,h.gr⟩
 |i+1,hi=>by
  have f:=aZ5 h hv i (by omega);have z:=aAY (v:=v) h.p (i+1);refine⟨z,?_,?_⟩<;> rw [cA] <;> cases decide ((cA n v s i).2<n)
  ·exact f.shr
  ·rw [zct]
   cases((jS (cA n v s i).1 (v.getD i 0)).2==0) with
   |false=>exact f.shr
   |true=>exact f.shr.trans (nX _ _)
  ·exact f.gr
  ·rw [zct]
   cases((jS (cA n v s i).1 (v.getD i 0)).2==0) with
   |false=>exact f.gr
   |true=>
    have e:v.getD i 0=v[i]:=by rw [zA,zC (show i<v.length by omega)];rfl
    obtain⟨m,B,C,D⟩:=hv _ (zD (show i<v.length by omega));intro r j;rw [e,C];exact(aQF f.p.ok f.shr (by rw [f.p.fr];exact B) D j).trans (f.gr r j)
theorem TrG.scan {c:Dc} {t:Nat} {n:Int} {s:Dc×Int} {b:Int} (h:TrG c t n s b)(e:t<c.gr.length):TrG c t n (cP s.1 t (bP s.1 t).1,s.2) b:= ⟨(h.p.scan e).1,h.shr,h.gr⟩
theorem aJU {c:Dc} (h:Ok c) {t:Nat} (f:t<c.gr.length) {n:Int} (j:0<=n):∀k,TrG c t n (aL c t n k) (64*k)
 |0=>⟨aAL h f j 0,uZ.refl c,λ_ _=>rfl⟩
 |k+1=>by
  have e:=aJU h f j k;have C:=aAL h f j (k+1)
  suffices z:uZ c (aL c t n (k+1)).1/\∀r,r≠t->(aL c t n (k+1)).1.gr.getD r g0=c.gr.getD r g0 from⟨C,z.1,z.2⟩
  rw [aL]
  cases decide ((aL c t n k).2<n) with
  |false=>exact⟨e.shr,e.gr⟩
  |true=>
   rw [zct];have B:t< (aL c t n k).1.ls.length:=by rw [e.p.ok.nl,e.p.gr];exact f
   have D:=aE6 e.p.ok B;have k:=aZ5 (e.scan f) (v:=(bP (aL c t n k).1 t).2) (λx F=>by obtain⟨m,u,G,H,J,K,-⟩:=D.at_ x F;refine⟨m,by rw [<-e.p.fr];exact G,H,λw E=>?_⟩;have :=e.shr m u J;rw [E,zse] at this;rw [this];exact K) _ (zF _);exact⟨k.shr,k.gr⟩
theorem aQG {c:Dc} {m:Nat} {u:Us} (j:m<c.fr.length)(h2:c.fr.getD m none=some u)(z:jL (c.fr.getD m none)=true):
 (jS c ((m+1:Nat):Int)).1.fr=c.fr.set m none/\(jS c ((m+1:Nat):Int)).1.ls=c.ls.set u.ten (kE (c.ls.getD u.ten l0) ((m+1:Nat):Int)).1:=by
 rcases cY c ((m+1:Nat):Int) with ⟨e,F⟩| ⟨D,G,e,E,B,f⟩
 ·have :=aDR j z;unfold jS at this;rw [e] at this;have this:(2:Int)=0:=this;omega
 ·obtain rfl:D=m:=by omega
  rw [h2,zse] at f;subst f;have k:=aDR j z;unfold jS at k⊢;rw [e] at k⊢;dsimp only at k⊢
  cases C:(iQ u&&decide (u.p.d=0)) with
  |false=> rw [C] at k;have k:(7:Int)=0:=k;omega
  |true=>exact⟨rfl,rfl⟩
def evT(d:Dc)(t m:Nat):Bool:=match d.fr.getD m none with |some u=>jL (some u)&&u.ten==t |none=>false
def iB(d:Dc)(t:Nat):Nat->Nat
 |0=>0
 |k+1=>iB d t k+(bif evT d t k then 1 else 0)
theorem aDO {d e:Dc} (h:e.fr=d.fr)(t:Nat):∀k,iB e t k=iB d t k
 |0=>rfl
 |k+1=>by rw [iB,iB,aDO h t k];unfold evT;rw [h]
theorem aQ8 {d e:Dc} {t m:Nat} (h:e.fr=d.fr.set m none):∀k,k<=m->iB e t k=iB d t k
 |0,_=>rfl
 |k+1,f=>by rw [iB,iB,aQ8 h k (by omega)];unfold evT;rw [h,getD_set_ne _ _ _ (show k≠m by omega)]
theorem aQ7 {d e:Dc} {t m:Nat} (hm:m<d.fr.length)(h:e.fr=d.fr.set m none)(f:evT d t m=true):∀k,m<k->iB e t k+1=iB d t k
 |0,j=>by omega
 |k+1,j=>by
  rw [iB,iB]
  by_cases x:k=m
  ·subst x;rw [aQ8 h k (zF _),f];have :evT e t k=false:=by unfold evT;rw [h,aH _ _ _ _ hm]
   rw [this];rfl
  ·have z:=aQ7 hm h f k (by omega);have :evT e t k=evT d t k:=by unfold evT;rw [h,getD_set_ne _ _ _ x]
   rw [this];omega
theorem aHM {d:Dc} {t:Nat} :∀k,(∀m,m<k->evT d t m=false)->iB d t k=0
 |0,_=>rfl
 |k+1,h=>by rw [iB,aHM k λm hm=>h m (by omega),h k (by omega)];rfl
theorem aGM(e held:List Int)(n:Int):∀(r:List Int) (s:ScS),((s.v.length+r.length:Nat):Int)<=n->jD e held n r s=r.foldl (eR e held) s
 | [],s,_=>rfl
 |f::r,s,h=>by
  have j:(f::r).length=r.length+1:=rfl;rw [j] at h;rw [jD,zdt (show(s.v.length:Int)<n by omega),zct,zE];refine aGM e held n r _ ?_;have :(eR e held s f).v.length<=s.v.length+1:=by unfold eR;cases decide (f∈held)<;> cases decide (f∈e)<;> simp
  omega
theorem vW(e held:List Int)(s:ScS)(f:Int):(∀x∈s.v,x∈(eR e held s f).v)/\∀x∈(eR e held s f).R,x∈s.R:=by
 unfold eR
 cases decide (f∈held) with
 |true=>exact⟨λ_ h=>h,λ_ h=>h⟩
 |false=>
  cases decide (f∈e) with
  |true=>exact⟨λ_ h=>h,λ_ h=>(dO.1 h).1⟩
  |false=>exact⟨λ_ h=>List.mem_append.2 (.inl h),λ_ h=>h⟩
theorem aHU(e held:List Int):∀(r:List Int) (s:ScS),(∀x∈s.v,x∈(r.foldl (eR e held) s).v)/\∀x∈(r.foldl (eR e held) s).R,x∈s.R
 | [],s=>⟨λ_ h=>h,λ_ h=>h⟩
 |f::r,s=>by obtain⟨a,b⟩:=vW e held s f;obtain⟨j,m⟩:=aHU e held r (eR e held s f);exact⟨λx h=>j x (a x h),λx h=>b x (m x h)⟩
theorem aLV(e held:List Int):∀(r:List Int) (s:ScS),(∀x∈s.R,x∈e)->∀f∈r,f∉held->(f∉e->f∈(r.foldl (eR e held) s).v)/\f∉(r.foldl (eR e held) s).R
 | [],s,_,f,j,_=>absurd j zH
 |g::r,s,B,f,j,z=>by
  obtain⟨a,b⟩:=aHU e held r (eR e held s g);rcases List.mem_cons.1 j with rfl |j
  ·rw [zE]
   by_cases m:f∈e
   ·refine⟨λx=>absurd m x,λx=>?_⟩;have :=b f x;unfold eR at this;rw [zdf z,zcf,zdt m,zct] at this;exact(dO.1 this).2 rfl
   ·refine⟨λ_=>a f ?_,λx=>m (B f ((vW e held s f).2 f (b f x)))⟩;unfold eR;rw [zdf z,zcf,zdf m,zcf];exact List.mem_append.2 (.inr (List.mem_singleton.2 rfl))
  ·rw [zE];exact aLV e held r _ (λx C=>B x ((vW e held s g).2 x C)) f j z
def QI(P:Int->Prop)(l:Ls):Prop:=∀x∈l.I,P x->x∉l.R
theorem QI.aA1 {P:Int->Prop} {l:Ls} (h:QI P l):∀n,QI P (aA1 n l):=λn=>by
 induction n generalizing l with
 |zero=>exact h
 |succ n z=>
  rw [YtmhapcbjjpadnaaGreat.aA1]
  cases decide ((l.A.length:Int)<=l.I.length) with
  |true=>exact h
  |false=>
   refine z ?_;unfold aH4
   by_cases e:fC l∈l.R
   ·rw [zdt e,zct];exact λx f j m=>h x f j (dO.1 m).1
   ·rw [zdf e,zcf];intro x f j;rcases List.mem_cons.1 f with rfl |f
    ·exact e
    ·exact h x f j
theorem QI.pL {P:Int->Prop} {l:Ls} (h:QI P l):QI P (pL l):=by
 unfold YtmhapcbjjpadnaaGreat.pL
 cases(!dM l) with
 |true=>exact h
 |false=>exact h.aA1 _
theorem aUJ {d:Dc} (h:Ok d) {t:Nat} (z:t<d.ls.length):((∀x∈(bP d t).1.I,x∈(fF d t).I)/\∀x∈(fF d t).I,x∉eC d d.fr.length->(x∉(fF d t).R->x∈(bP d t).2)/\x∉(bP d t).1.R):=by
 have j:=(bX _).1 (h.ls t z);obtain⟨e,-⟩:=j.pL;have e:gT (fF d t):=e;have B:=ScK.scan e (eC d d.fr.length) ((fF d t).I.length:Int) (fF d t).I.reverse _ (λx f=>List.mem_reverse.1 f) (ScK.start e);unfold bP lU;rw [(bX _).2 e,Bool.not_true,zcf];dsimp only;refine⟨λx f=>B.perm.mem_iff.1 f,λx f m=>?_⟩;rw [aGM _ _ _ _ _ (by simp)];exact aLV (fF d t).R (eC d d.fr.length) (fF d t).I.reverse ⟨(fF d t).I,(fF d t).R,[]⟩ (λ_ h=>h) x (List.mem_reverse.2 f) m
theorem OkP.x {c:Dc} (hm:OkP c):OkP c.x:=hm.keep rfl rfl rfl
theorem OkP.jS {c:Dc} (h:Ok c)(hm:OkP c)(n:Int):OkP (jS c n).1:=by
 unfold YtmhapcbjjpadnaaGreat.jS;rcases cY c n with ⟨e,j⟩| ⟨m,u,e,rfl,f,h2⟩
 ·rw [e];exact hm.x
 ·rw [e];dsimp only
  cases(iQ u&&decide (u.p.d=0)) with
  |false=>exact hm.x
  |true=>exact(hm.gone h f h2 0).keep rfl rfl rfl
theorem aGP {d:Dc} (h:Ok d) {t:Nat} (m:t<d.ls.length):((bP d t).1.A++(bP d t).1.I).Perm ((d.ls.getD t l0).A++(d.ls.getD t l0).I):=by have j:=(bX _).1 (h.ls t m);obtain⟨e,f⟩:=j.pL;obtain⟨B,z⟩:=e.scan ((fF d t).I.length:Int) (eC d d.fr.length);exact z.trans f
theorem OkP.scan {d:Dc} (h:Ok d)(hm:OkP d) {t:Nat} (f:t<d.ls.length):OkP (cP d t (bP d t).1):=by refine⟨hm.pgs,λm u k1 k2=>?_⟩;have k:=hm.lst m u k1 k2;refine aQQ k λe=>?_;rw [e] at k;exact List.mem_append.1 ((aGP h f).mem_iff.2 (List.mem_append.2 k))
structure LsS(d e:Dc)(t:Nat):Prop where
 I:∀x∈(e.ls.getD t l0).I,x∈(d.ls.getD t l0).I
 R:∀x∈(e.ls.getD t l0).R,x∈(d.ls.getD t l0).R
theorem LsS.refl(d:Dc)(t:Nat):LsS d d t:=⟨λ_ h=>h,λ_ h=>h⟩
theorem LsS.trans {a b c:Dc} {t:Nat} (h:LsS a b t)(k:LsS b c t):LsS a c t:=⟨λx e=>h.I x (k.I x e),λx e=>h.R x (k.R x e)⟩
theorem aYE(l:Ls)(f:Int):(∀x∈(kE l f).1.I,x∈l.I)/\∀x∈(kE l f).1.R,x∈l.R:=by
 unfold kE
 cases(!dM l) with
 |true=>exact⟨λ_ h=>h,λ_ h=>h⟩
 |false=>
  cases(!cE f) with
  |true=>exact⟨λ_ h=>h,λ_ h=>h⟩
  |false=>
   cases(!lO l f) with
   |true=>exact⟨λ_ h=>h,λ_ h=>h⟩
   |false=>exact⟨λ_ h=>(dO.1 h).1,λ_ h=>(dO.1 h).1⟩
theorem bAQ(c:Dc)(n:Int)(t:Nat):LsS c (jS c n).1 t:=by
 unfold jS;rcases cY c n with ⟨e,D⟩| ⟨m,u,e,rfl,C,h2⟩
 ·rw [e];exact⟨λ_ h=>h,λ_ h=>h⟩
 ·rw [e];dsimp only
  cases(iQ u&&decide (u.p.d=0)) with
  |false=>exact⟨λ_ h=>h,λ_ h=>h⟩
  |true=>
   obtain⟨a,b⟩:=aYE (c.ls.getD u.ten l0) ((m+1:Nat):Int)
   have j:∀x:Ls,x=(c.ls.set u.ten (kE (c.ls.getD u.ten l0) ((m+1:Nat):Int)).1).getD t l0->(∀y∈x.I,y∈(c.ls.getD t l0).I)/\∀y∈x.R,y∈(c.ls.getD t l0).R:=λx f=>by
    by_cases B:t=u.ten
    ·subst B
     by_cases z:u.ten<c.ls.length
     ·rw [aH _ _ _ _ z] at f;subst f;exact⟨a,b⟩
     ·rw [dF _ _ (Nat.le_of_not_lt z)] at f;subst f;exact⟨λ_ h=>h,λ_ h=>h⟩
    ·rw [getD_set_ne _ _ _ B] at f;subst f;exact⟨λ_ h=>h,λ_ h=>h⟩
   obtain⟨k1,k2⟩:=j _ rfl;exact⟨k1,k2⟩
structure TrK(c:Dc)(t:Nat)(n:Int)(s:Dc×Int)(b:Int):Prop where
 g:TrG c t n s b
 okp:OkP s.1
 cnt:s.2+(iB s.1 t c.fr.length:Int)=(iB c t c.fr.length:Int)
theorem TrK.ev {c:Dc} {t:Nat} {n:Int} {s:Dc×Int} {b:Int} (h:TrK c t n s b) {m:Nat} {u:Us} (hm:m<c.fr.length)(j:s.1.fr.getD m none=some u)(B:u.ten=t)(f:jL (s.1.fr.getD m none)=true)(E:s.2<n):
 TrK c t n ((jS s.1 ((m+1:Nat):Int)).1,s.2+1) (b+1)/\(jS s.1 ((m+1:Nat):Int)).1.fr.getD m none=none:=by
 have e:m<s.1.fr.length:=by rw [h.g.p.fr];exact hm
 obtain⟨e1,F⟩:=aQG e j f;refine⟨⟨⟨h.g.p.ev E _,h.g.shr.trans (nX _ _),λr z=>?_⟩,OkP.jS h.g.p.ok h.okp _,?_⟩,by rw [e1];exact aH _ _ _ _ e⟩
 ·refine(aQF h.g.p.ok (uZ.refl s.1) e (λw C=>?_) z).trans (h.g.gr r z);rw [j,zse] at C;rw [<-C];exact B
 ·have D:evT s.1 t m=true:=by unfold evT;rw [j] at f⊢;dsimp only;rw [f,B];simp
  have :=aQ7 e e1 D c.fr.length hm;have :=h.cnt;dsimp only;omega
theorem TrK.wid {c:Dc} {t:Nat} {n:Int} {s:Dc×Int} {b f:Int} (h:TrK c t n s b)(e:b<=f):TrK c t n s f:=⟨⟨h.g.p.wid e,h.g.shr,h.g.gr⟩,h.okp,h.cnt⟩
theorem aZ6 {c:Dc} {t:Nat} {n:Int} {s:Dc×Int} {b:Int} (h:TrK c t n s b) {v:List Int} (hv:aO2 s.1 t v):∀i,i<=v.length->
 TrK c t n (cA n v s i) (b+i)/\uZ s.1 (cA n v s i).1/\LsS s.1 (cA n v s i).1 t/\((cA n v s i).2<n->∀j m,j<i->v.getD j 0=((m+1:Nat):Int)->(cA n v s i).1.fr.getD m none=none)
 |0,_=>⟨h.wid (by omega),uZ.refl _,LsS.refl _ _,λ_ j m N=>by omega⟩
 |i+1,hi=>by
  obtain⟨k,k2,k3,k4⟩:=aZ6 h hv i (by omega)
  by_cases z:(cA n v s i).2<n
  ·obtain⟨m,O,G,E⟩:=aPN hv (n:=n) (s:=s) rfl (show i<v.length by omega);obtain⟨e1,F⟩:=aCA hv (n:=n) (s:=s) rfl (show i<v.length by omega) (by rw [k.g.p.fr,h.g.p.fr]) z;rw [G] at e1 F
   cases D:(cA n v s i).1.fr.getD m none with
   |none=>rw [D] at E;cases E
   |some u=>
    have B:u.ten=t:=by
     have e:v.getD i 0=v[i]:=by rw [zA,zC (show i<v.length by omega)];rfl
     obtain⟨f,R,Q,H,J,K,-⟩:=hv.at_ _ (zD (show i<v.length by omega));rw [<-e,G] at H;obtain rfl:m=f:=by omega
     have :=k2 m u D;rw [J,zse] at this;rw [<-this];exact K
    obtain⟨q1,q2⟩:=k.ev (by rw [<-h.g.p.fr];exact O) D B E z;rw [F];refine⟨q1.wid (by omega),k2.trans (nX _ _),k3.trans (bAQ _ _ _),λ_ j f N C=>?_⟩
    by_cases x:j=i
    ·subst x;obtain rfl:f=m:=by omega
     exact q2
    ·have :=k4 z j f (by omega) C
     cases M:(jS (cA n v s i).1 ((m+1:Nat):Int)).1.fr.getD f none with
     |none=>rfl
     |some w=>
      have :=nX _ _ f w M
      simp_all
  ·have e:cA n v s (i+1)=cA n v s i:=by rw [cA,zdf z,zcf]
   rw [e];exact⟨k.wid (by omega),k2,k3,λx=>absurd x z⟩
theorem tZ {c:Dc} {m:Nat} :∀k,((m+1:Nat):Int)∈eC c k->jL (c.fr.getD m none)=false
 |0,h=>absurd h zH
 |k+1,h=>by
  rw [eC] at h
  cases e:jL (c.fr.getD k none) with
  |true=>rw [e,zct] at h;exact tZ k h
  |false=>
   rw [e,zcf] at h;rcases List.mem_append.1 h with h |h
   ·exact tZ k h
   ·obtain rfl:m=k:=by have :=List.mem_singleton.1 h;omega
    exact e
def aET(d:Dc)(x:Int):Prop:=jL (d.fr.getD (x-1).toNat none)=true
theorem aVB {d e:Dc} (h:uZ d e) {x:Int} (j:aET e x):aET d x:=by
 unfold aET at *
 cases f:e.fr.getD (x-1).toNat none with
 |none=>rw [f] at j;cases j
 |some u=>rw [h _ u f,<-f];exact j
structure bOR(c:Dc)(t:Nat)(n:Int)(k:Nat):Prop where
 tr:TrK c t n (aL c t n k) (64*k)
 q1:1<=k->(aL c t n k).2<n->QI (aET (aL c t n k).1) ((aL c t n k).1.ls.getD t l0)
 q2:2<=k->(aL c t n k).2<n->∀x∈((aL c t n k).1.ls.getD t l0).I,¬aET (aL c t n k).1 x
theorem aP7 {c:Dc} (h:Ok c)(Z:OkP c) {t:Nat} (J:t<c.gr.length) {n:Int} (N:0<=n):∀k,bOR c t n k
 |0=>⟨⟨aJU h J N 0,Z,Int.zero_add _⟩,λx=>by omega,λx=>by omega⟩
 |k+1=>by
  have f:=aP7 h Z J N k;have W:=aJU h J N (k+1)
  by_cases z:(aL c t n k).2<n
  ·have e:aL c t n (k+1)=cA n (bP (aL c t n k).1 t).2 (cP (aL c t n k).1 t (bP (aL c t n k).1 t).1,(aL c t n k).2) (bP (aL c t n k).1 t).2.length:=by rw [aL,zdt z,zct]
   have D:t< (aL c t n k).1.ls.length:=by rw [f.tr.g.p.ok.nl,f.tr.g.p.gr];exact J
   have hv:=aE6 f.tr.g.p.ok D;obtain⟨sI,sA⟩:=aUJ f.tr.g.p.ok D;have q1:=f.q1;have K:∀x∈((aL c t n k).1.ls.getD t l0).A++((aL c t n k).1.ls.getD t l0).I,1<=x:=λx F=>by obtain⟨m,u,m1,m2,-⟩:=f.tr.g.p.ok.mem t x D (List.mem_append.1 F);omega
   have E:=aGP f.tr.g.p.ok D
   have k0:TrK c t n (cP (aL c t n k).1 t (bP (aL c t n k).1 t).1,(aL c t n k).2) (64*k):=⟨f.tr.g.scan J,f.tr.okp.scan f.tr.g.p.ok D,by
    have :=f.tr.cnt;have e:iB (cP (aL c t n k).1 t (bP (aL c t n k).1 t).1) t c.fr.length=iB (aL c t n k).1 t c.fr.length:=aDO (d:=(aL c t n k).1) (e:=cP (aL c t n k).1 t (bP (aL c t n k).1 t).1) rfl t _;dsimp only;rw [e];exact this⟩
   have O:aO2 (cP (aL c t n k).1 t (bP (aL c t n k).1 t).1) t (bP (aL c t n k).1 t).2:=⟨hv.nodup,hv.at_⟩;obtain⟨f1,f2,f3,f4⟩:=aZ6 k0 O _ (zF _);have G:(cP (aL c t n k).1 t (bP (aL c t n k).1 t).1).ls.getD t l0=(bP (aL c t n k).1 t).1:=aH _ _ _ _ D;have aa:∀i,cA n (bP (aL c t n k).1 t).2 (cP (aL c t n k).1 t (bP (aL c t n k).1 t).1,(aL c t n k).2) i=cA n (bP (aL c t n k).1 t).2 (cP (aL c t n k).1 t (bP (aL c t n k).1 t).1,(aL c t n k).2) i:=λ_=>rfl;rw [<-e] at f1 f2 f3 f4
   have ab:=(aGO f.tr.g.p.ok D).2.1
   have nh:∀x∈((aL c t n (k+1)).1.ls.getD t l0).I,aET (aL c t n (k+1)).1 x->x∈(fF (aL c t n k).1 t).I/\x∉eC (aL c t n k).1 (aL c t n k).1.fr.length/\aET (aL c t n k).1 x/\1<=x:=λx F C=>by
    have a:=f3.I x F;rw [G] at a;have B:aET (aL c t n k).1 x:=aVB f2 C;have Q:1<=x:=K x (E.mem_iff.1 (List.mem_append.2 (.inr a)));refine⟨sI x a,λhh=>?_,B,Q⟩;have e1:x=(((x-1).toNat+1:Nat):Int):=by omega
    rw [e1] at hh;have :=tZ _ hh;unfold aET at B;rw [this] at B;cases B
   refine⟨⟨W,f1.okp,f1.cnt⟩,λ_ _ x F C hr=>?_,λh2 H x F C=>?_⟩
   ·obtain⟨a,b,-,-⟩:=nh x F C;have :=f3.R x hr;rw [G] at this;exact(sA x a b).2 this
   ·obtain⟨a,b,d,x1⟩:=nh x F C;have hq:=(q1 (by omega) z).pL;have hb:x∉(fF (aL c t n k).1 t).R:=hq x a d;have T:=(sA x a b).1 hb;obtain⟨j,Y,M⟩:=zG T;have e1:x=(((x-1).toNat+1:Nat):Int):=by omega
    have :=f4 H j (x-1).toNat Y (by rw [zA,zC Y,zI,M];exact e1);unfold aET at C;rw [this] at C;cases C
  ·have e:aL c t n (k+1)=aL c t n k:=by rw [aL,zdf z,zcf]
   refine⟨⟨W,by rw [e];exact f.tr.okp,by rw [e];exact f.tr.cnt⟩,λ_ x=>?_,λ_ x=>?_⟩
   ·rw [e] at x;exact absurd x z
   ·rw [e] at x;exact absurd x z
theorem aO3 {c:Dc} {t:Nat} {n:Int} {s:Dc×Int} {b:Int} (h:TrK c t n s b) {a:List Int} (H:∀x∈a,∃m u,m<c.fr.length/\x=((m+1:Nat):Int)/\s.1.fr.getD m none=some u/\u.ten=t):∀i,i<=a.length->
 TrK c t n (cK n a s i) (b+i)/\uZ s.1 (cK n a s i).1/\((cK n a s i).2<n->∀j m,j<i->a.getD (a.length-1-j) 0=((m+1:Nat):Int)->jL ((cK n a s i).1.fr.getD m none)=false)
 |0,_=>⟨h.wid (by omega),uZ.refl _,λ_ j m E=>by omega⟩
 |i+1,hi=>by
  obtain⟨k,k2,k4⟩:=aO3 h H i (by omega)
  by_cases D:(cK n a s i).2<n
  ·have E:a.length-1-i<a.length:=by omega
   have e:a.getD (a.length-1-i) 0=a[a.length-1-i]:=by rw [zA,zC E];rfl
   obtain⟨m,u,N,O,Q,R⟩:=H _ (zD E);have M:a.getD (a.length-1-i) 0=((m+1:Nat):Int):=e.trans O;have f:cK n a s (i+1)=bif jL ((cK n a s i).1.fr.getD m none) then((jS (cK n a s i).1 ((m+1:Nat):Int)).1,(cK n a s i).2+1) else cK n a s i:=by rw [cK,zdt D,zct,M,show(((m+1:Nat):Int)-1).toNat=m by omega]
   cases C:jL ((cK n a s i).1.fr.getD m none) with
   |true=>
    rw [C,zct] at f
    cases G:(cK n a s i).1.fr.getD m none with
    |none=>rw [G] at C;cases C
    |some w=>
     have J:=k2 m w G;rw [Q,zse] at J;obtain⟨q1,q2⟩:=k.ev N G (by rw [<-J];exact R) C D;rw [f];refine⟨q1.wid (by omega),k2.trans (nX _ _),λ_ j B F z=>?_⟩
     by_cases x:j=i
     ·subst x;obtain rfl:B=m:=by omega
      dsimp only;rw [q2];rfl
     ·have :=k4 D j B (by omega) z;dsimp only
      cases K:(jS (cK n a s i).1 ((m+1:Nat):Int)).1.fr.getD B none with
      |none=>rfl
      |some T=>
       have :=nX _ _ B T K
       simp_all
   |false=>
    rw [C,zcf] at f;rw [f];refine⟨k.wid (by omega),k2,λ_ j B F z=>?_⟩
    by_cases x:j=i
    ·subst x;obtain rfl:B=m:=by omega
     exact C
    ·exact k4 D j B (by omega) z
  ·have e:cK n a s (i+1)=cK n a s i:=by rw [cK,zdf D,zcf]
   rw [e];exact⟨k.wid (by omega),k2,λx=>absurd x D⟩
theorem aUN {c:Dc} (h:Ok c)(hp:OkP c) {t:Nat} (M:t<c.gr.length) {n:Int} (hn:1<=n)(hc:n<=(iB c t c.fr.length:Int)):(cR c t n).2=n:=by
 have hx:∀k,iB c.x t k=iB c t k:=aDO (d:=c) (e:=c.x) rfl t;have P:=aP7 (c:=c.x) h.x hp.x (t:=t) M (n:=n) (by omega) 2;have Z:t< (aL c.x t n 2).1.ls.length:=by rw [P.tr.g.p.ok.nl,P.tr.g.p.gr];exact M
 have E:=(uK h M n).2.2.2.2.2.1 hn;unfold cR at E⊢;rw [zdf (show ¬n<1 by omega),zcf] at E⊢;obtain⟨k1,k2,k3⟩:=aO3 P.tr (a:=((aL c.x t n 2).1.ls.getD t l0).A) (λx N=>by obtain⟨m,u,m1,m2,m3,m4⟩:=P.tr.g.p.ok.mem t x Z (.inl N);exact⟨m,u,by rw [<-P.tr.g.p.fr];exact m1,m2,m3,m4⟩) _ (zF _);generalize W:cK n ((aL c.x t n 2).1.ls.getD t l0).A (aL c.x t n 2) ((aL c.x t n 2).1.ls.getD t l0).A.length=f at *
 by_cases F:f.2<n
 ·exfalso
  have z:∀i,(cK n ((aL c.x t n 2).1.ls.getD t l0).A (aL c.x t n 2) i).2<n\/f=cK n ((aL c.x t n 2).1.ls.getD t l0).A (aL c.x t n 2) i\/((aL c.x t n 2).1.ls.getD t l0).A.length<i:=λi=>by
   by_cases a:(cK n ((aL c.x t n 2).1.ls.getD t l0).A (aL c.x t n 2) i).2<n
   ·exact .inl a
   ·by_cases b:i<=((aL c.x t n 2).1.ls.getD t l0).A.length
    ·exact .inr (.inl (by rw [<-W];exact pK a _ b))
    ·exact .inr (.inr (by omega))
  have J:(aL c.x t n 2).2<n:=by
   rcases z 0 with a |a |a
   ·exact a
   ·have a:f=aL c.x t n 2:=a;rw [<-a];exact F
   ·omega
  have hz:iB f.1 t c.fr.length=0:=aHM _ λm hm=>by
   cases C:evT f.1 t m with
   |false=>rfl
   |true=>
    exfalso;unfold evT at C
    cases H:f.1.fr.getD m none with
    |none=>rw [H] at C;cases C
    |some u=>
     rw [H] at C;dsimp only at C;obtain⟨O,B⟩:=Bool.and_eq_true_iff.1 C;have B:u.ten=t:=by simpa using B
     have G:=k2 m u H;have D:=P.tr.okp.lst m u (by rw [P.tr.g.p.fr];exact hm) G;rw [B] at D;rcases D with R |T
     ·obtain⟨i,Y,K⟩:=zG R
      have :=k3 F (((aL c.x t n 2).1.ls.getD t l0).A.length-1-i) m (by omega) (by
       rw [show((aL c.x t n 2).1.ls.getD t l0).A.length-1- (((aL c.x t n 2).1.ls.getD t l0).A.length-1-i)=i by omega,zA,zC Y,zI,K])
      rw [H] at this;rw [O] at this;cases this
     ·refine P.q2 (by omega) J _ T ?_;unfold aET;rw [show(((m+1:Nat):Int)-1).toNat=m by omega,G];exact O
  have j:=k1.cnt;have e1:iB f.1 t c.x.fr.length=0:=hz;rw [e1,hx] at j;have Q:c.x.fr.length=c.fr.length:=rfl;rw [Q] at j;omega
 ·omega
end Go.Proofs.YtmhapcbjjpadnaaGreat
