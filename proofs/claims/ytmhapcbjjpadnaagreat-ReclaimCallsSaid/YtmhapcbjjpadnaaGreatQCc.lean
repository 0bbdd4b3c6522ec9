/- Caches. -/
import Derived.Test.YtmhapcbjjpadnaaGreatGYc
import Derived.Test.YtmhapcbjjpadnaaGreatGOc
import Derived.Test.YtmhapcbjjpadnaaGreatQBc
set_option linter.all false
set_option maxRecDepth 40000
open Int renaming toNat_natCast→zE
open List renaming getD_eq_getElem?_getD→zA,getElem_mem→zC,length_set→zD,mem_cons_of_mem→zF,mem_cons_self→zG
open Nat renaming le_refl→zH
namespace Go.Proofs.YtmhapcbjjpadnaaGreat
open Go Go.Sk Go.RowKit
theorem aST(z:Zn)(f:Int):gM (aO4 z f)=gM (aO4 (gM z) f):=rfl
theorem aVU {a b:List Zn} (s:fB a b)(h:bB b=true)(f:Int):fB (eD (a.map gM) a f).1 (eD b b f).1:=by
 have Q:bB a=true:=by rw [s.check];exact h
 have k1:=vI (base:=a.map gM) (f:=f) Q;have k2:=vI (base:=b) (f:=f) h;have M:fB (a.map gM) b:=(fB.ex _).trans s;have O:=s.len;have hgt:=λi B=>s.get i B;have K:=((eR b).1 h).1;generalize eD (a.map gM) a f=q1 at *;generalize eD b b f=q2 at *
 have C:∀i j (B:i<b.length) (E:j<b.length),b[i].first<=f/\f<b[i].first+b[i].size->b[j].first<=f/\f<b[j].first+b[j].size->i=j:=λi j B E x y=>by
  rcases Nat.lt_trichotomy i j with e |e |e
  ·have :=K.sep i j B E e;omega
  ·exact e
  ·have :=K.sep j i E B e;omega
 have D:∀ {x y:Zn},gM x=gM y->x.first=y.first/\x.size=y.size/\x.free=y.free:=λ{x y} e=>by unfold gM at e;rw [Zn.mk.injEq] at e;exact⟨e.1,e.2.1,e.2.2.2.2.2.1⟩
 cases k1 with
 |range w=>
  cases k2 with
  |range _=>exact M
  |free i B m H=> obtain⟨e1,G,J⟩:=D (hgt i (by omega));exact absurd m (by rw [<-e1,<-G];exact w _ (zC _))
  |ok i B m H=> obtain⟨e1,G,J⟩:=D (hgt i (by omega));exact absurd m (by rw [<-e1,<-G];exact w _ (zC _))
 |free i B m H=>
  obtain⟨e1,G,J⟩:=D (hgt i B);rw [e1,G] at m;rw [J] at H
  cases k2 with
  |range w=>exact absurd m (w _ (zC _))
  |free _ _ _ _=>exact M
  |ok j E z F=> have :=C i j (by omega) E m z;subst this;exact absurd H F
 |ok i B m H=>
  have N:=hgt i B;obtain⟨e1,G,J⟩:=D N;rw [e1,G] at m;rw [J] at H
  cases k2 with
  |range w=>exact absurd m (w _ (zC _))
  |free j E z F=> have :=C i j (by omega) E m z;subst this;exact absurd F H
  |ok j E z F=> have :=C i j (by omega) E m z;subst this;exact M.set i (by rw [aST,N,<-aST])
theorem vC.refl(a:Dc):vC a a:=⟨rfl,rfl,rfl,rfl,rfl,rfl,rfl⟩
theorem vC.ok {a b:Dc} (s:vC a b)(h:Ok b):Ok a:=by
 obtain⟨fl,fr,j,gr,ls,Z,pt⟩:=a;obtain⟨J,K,G,M,W,H,Y⟩:=b;obtain⟨e1,m,f,B,C,D,E⟩:=s;dsimp only at e1 m f B C D E;subst e1 m B C D E;refine⟨h.nf,h.nr,h.ng,h.nl,h.nk,h.file,λn u N O=>?_,h.ent,by rw [show bB j=bB G from f.check];exact h.zone,λz T x R=>?_,h.gr,h.ls,h.mem,h.ck,h.pt⟩
 ·have k:=h.use n u N O;exact⟨k.file,k.page,k.pg,k.ten,k.holds,k.rd,k.wr,k.val⟩
 ·have F:gM z∈j.map gM:=List.mem_map_of_mem T;rw [show j.map gM=G.map gM from f] at F;obtain⟨w,Q,e⟩:=List.mem_map.1 F;have e:w.free=z.free:=by unfold gM at e;rw [Zn.mk.injEq] at e;exact e.2.2.2.2.2.1
  exact h.free w Q x (by rw [e];exact R)
theorem vC.trans {a b c:Dc} (s:vC a b)(k:vC b c):vC a c:=⟨s.fl.trans k.fl,s.fr.trans k.fr,fB.trans s.zo k.zo,s.gr.trans k.gr,s.ls.trans k.ls,s.ck.trans k.ck,s.pt.trans k.pt⟩
theorem aSP {a b:Dc} (s:vC a b)(h:Ok b)(n:Int):vC (evP a n).1 (evG b n).1/\(evP a n).2=(evG b n).2:=by
 obtain⟨j,z,E,gr,C,f,D⟩:=a;obtain⟨Q,R,F,T,W,O,Y⟩:=b;obtain⟨e1,G,H,J,K,M,N⟩:=s;dsimp only at e1 G H J K M N;subst e1 G J K M N;have B:fB (E.map noZ) F:=fB.trans (aFU E) H;unfold evP evG;rw [show fW ⟨j,z,E,gr,C,f,D⟩ n=fW ⟨j,z,F,gr,C,f,D⟩ n from rfl];rcases cE ⟨j,z,F,gr,C,f,D⟩ n with ⟨e,hu⟩| ⟨m,u,e,rfl,Z,h2⟩
 ·rw [e];exact⟨⟨rfl,rfl,B,rfl,rfl,rfl,rfl⟩,rfl⟩
 ·rw [e];dsimp only
  cases(iJ u&&decide (u.p.d=0)) with
  |false=>exact⟨⟨rfl,rfl,B,rfl,rfl,rfl,rfl⟩,rfl⟩
  |true=>exact⟨⟨rfl,rfl,aVU B h.zone _,rfl,rfl,rfl,rfl⟩,rfl⟩
theorem aYG {a:Dc} (h:Ok a)(n:Int):Ok (evP a n).1:=(aYH h n).1.ok (aYD h n)
def fY(n:Int)(v:List Int)(s:Dc×Int):Nat->Dc×Int
 |0=>s
 |i+1=>bif decide ((fY n v s i).2<n) then(bif (evP (fY n v s i).1 (v.getD i 0)).2==0 then((evP (fY n v s i).1 (v.getD i 0)).1,(fY n v s i).2+1) else fY n v s i) else fY n v s i
def gN(n:Int)(a:List Int)(s:Dc×Int):Nat->Dc×Int
 |0=>s
 |i+1=>bif decide ((gN n a s i).2<n) then(bif lN ((gN n a s i).1.fr.getD (a.getD (a.length-1-i) 0-1).toNat none) then((evP (gN n a s i).1 (a.getD (a.length-1-i) 0)).1,(gN n a s i).2+1) else gN n a s i) else gN n a s i
def cR(c:Dc)(t:Nat)(n:Int):Nat->Dc×Int
 |0=>(c,0)
 |k+1=>bif decide ((cR c t n k).2<n) then fY n (aW (cR c t n k).1 t).2 (cB (cR c t n k).1 t (aW (cR c t n k).1 t).1,(cR c t n k).2) (aW (cR c t n k).1 t).2.length else cR c t n k
def jE(c:Dc)(t:Nat)(n:Int):Dc×Int:=bif decide (n<1) then(c.x,0) else gN n ((cR c.x t n 2).1.ls.getD t l0).A (cR c.x t n 2) ((cR c.x t n 2).1.ls.getD t l0).A.length
structure aCM(s r:Dc×Int):Prop where
 sim:vC s.1 r.1
 eq:s.2=r.2
theorem aWY {a b:Dc} (s:vC a b)(t:Nat):aW a t=aW b t:=by unfold aW gX;rw [aH2 s.fr,s.fr,s.ls]
theorem aWZ {a b:Dc} (s:vC a b)(t:Nat)(x:Ls):vC (cB a t x) (cB b t x):=⟨s.fl,s.fr,s.zo,s.gr,by unfold cB;dsimp only;rw [s.ls],s.ck,s.pt⟩
theorem aPV {c:Dc} {n:Int} {v:List Int} {s r:Dc×Int} {b:Int} (k:aCM s r)(h:TrI c r b):∀i,aCM (fY n v s i) (iH n v r i)
 |0=>k
 |i+1=>by
  have e:=aPV (n:=n) (v:=v) k h i;have o:=aG3 (n:=n) (v:=v) h i;obtain⟨e1,f⟩:=aSP e.sim o.ok (v.getD i 0);rw [fY,iH,e.eq,f]
  cases decide ((iH n v r i).2<n) with
  |false=>exact e
  |true=>
   rw [zct,zct]
   cases((evG (iH n v r i).1 (v.getD i 0)).2==0) with
   |false=>exact e
   |true=>exact⟨e1,rfl⟩
theorem aN4 {c:Dc} {n:Int} {a:List Int} {s r:Dc×Int} {b:Int} (k:aCM s r)(h:TrI c r b):∀i,aCM (gN n a s i) (kC n a r i)
 |0=>k
 |i+1=>by
  have e:=aN4 (n:=n) (a:=a) k h i;have o:=aFJ (n:=n) (a:=a) h i;obtain⟨e1,f⟩:=aSP e.sim o.ok (a.getD (a.length-1-i) 0);rw [gN,kC,e.eq,e.sim.fr]
  cases decide ((kC n a r i).2<n) with
  |false=>exact e
  |true=>
   rw [zct,zct]
   cases lN ((kC n a r i).1.fr.getD (a.getD (a.length-1-i) 0-1).toNat none) with
   |false=>exact e
   |true=>exact⟨e1,rfl⟩
theorem aP2 {a c:Dc} (s:vC a c)(h:Ok c) {t:Nat} (f:t<c.gr.length)(n:Int):∀k,aCM (cR a t n k) (cS c t n k)
 |0=>⟨s,rfl⟩
 |k+1=>by
  have e:=aP2 s h f n k;have o:=uN h f n k;rw [cR,cS,e.eq,aWY e.sim]
  cases decide ((cS c t n k).2<n) with
  |false=>exact e
  |true=>
   rw [zct,zct];have j:t< (cS c t n k).1.ls.length:=by rw [o.ok.nl,o.sh.gr];exact f
   obtain⟨-,q2,m,-⟩:=uT o.ok j;have k0:TrI c (cB (cS c t n k).1 t (aW (cS c t n k).1 t).1,(cS c t n k).2) (64*k):=⟨m,o.sh.trans ⟨rfl,rfl,rfl,rfl⟩,o.lo,o.hi⟩;have k1:aCM (cB (cR a t n k).1 t (aW (cS c t n k).1 t).1,(cS c t n k).2) (cB (cS c t n k).1 t (aW (cS c t n k).1 t).1,(cS c t n k).2):=⟨aWZ e.sim t _,rfl⟩;exact aPV k1 k0 _
theorem aII {a c:Dc} (s:vC a c)(h:Ok c) {t:Nat} (f:t<c.gr.length)(n:Int):aCM (jE a t n) (jU c t n):=by
 have e:vC a.x c:=(vC.x a).trans s;have k:=aP2 e h f n 2;have o:=uN h f n 2;unfold jE jU
 cases decide (n<1) with
 |true=>exact⟨e,rfl⟩
 |false=> rw [zcf,zcf,k.sim.ls];exact aN4 k o _
structure TrP(c:Dc)(n:Int)(s:Dc×Int)(b:Int):Prop where
 ok:Ok s.1
 gr:s.1.gr.length=c.gr.length
 fr:s.1.fr.length=c.fr.length
 lo:0<=s.2
 hi:s.2<=b
 le:s.2<=n
theorem TrP.wid {c:Dc} {n:Int} {s:Dc×Int} {b f:Int} (h:TrP c n s b)(e:b<=f):TrP c n s f:=⟨h.ok,h.gr,h.fr,h.lo,by have :=h.hi;omega,h.le⟩
theorem aYE {c:Dc} (h:Ok c)(n:Int):(evP c n).1.gr.length=c.gr.length/\(evP c n).1.fr.length=c.fr.length:=by have s:=(aYH h n).1;have k:=(pS.ev c n).sh h;have e:=k.2.gr;rw [s.gr,s.fr];exact⟨e,k.2.fr⟩
theorem TrP.ev {c:Dc} {n:Int} {s:Dc×Int} {b:Int} (h:TrP c n s b)(f:s.2<n)(x:Int):TrP c n ((evP s.1 x).1,s.2+1) (b+1):=by obtain⟨e1,e⟩:=aYE h.ok x;have :=h.lo;have :=h.hi;exact⟨aYG h.ok x,e1.trans h.gr,e.trans h.fr,by dsimp only;omega,by dsimp only;omega,by dsimp only;omega⟩
theorem aMN {c:Dc} {n:Int} {v:List Int} {s:Dc×Int} {b:Int} (h:TrP c n s b):∀i,TrP c n (fY n v s i) (b+i)
 |0=>h.wid (by omega)
 |i+1=>by
  have f:=aMN (v:=v) h i;rw [fY]
  by_cases e:(fY n v s i).2<n
  ·rw [zdt e,zct]
   cases((evP (fY n v s i).1 (v.getD i 0)).2==0) with
   |false=>exact f.wid (by omega)
   |true=>exact(f.ev e _).wid (by omega)
  ·rw [zdf e];exact f.wid (by omega)
theorem aKQ {n:Int} {v:List Int} {s:Dc×Int} {i:Nat} (h:¬(fY n v s i).2<n):∀j,i<=j->fY n v s j=fY n v s i
 |0,f=>by
  obtain rfl:i=0:=by omega
  rfl
 |j+1,f=>by
  by_cases e:i=j+1
  ·rw [e]
  ·rw [fY,aKQ h j (by omega),zdf h,zcf]
theorem aKS {c:Dc} {n:Int} {a:List Int} {s:Dc×Int} {b:Int} (h:TrP c n s b):∀i,TrP c n (gN n a s i) (b+i)
 |0=>h.wid (by omega)
 |i+1=>by
  have f:=aKS (a:=a) h i;rw [gN]
  by_cases e:(gN n a s i).2<n
  ·rw [zdt e,zct]
   cases lN ((gN n a s i).1.fr.getD (a.getD (a.length-1-i) 0-1).toNat none) with
   |false=>exact f.wid (by omega)
   |true=>exact(f.ev e _).wid (by omega)
  ·rw [zdf e];exact f.wid (by omega)
theorem aCN {n:Int} {a:List Int} {s:Dc×Int} {i:Nat} (h:¬(gN n a s i).2<n):∀j,i<=j->gN n a s j=gN n a s i
 |0,f=>by
  obtain rfl:i=0:=by omega
  rfl
 |j+1,f=>by
  by_cases e:i=j+1
  ·rw [e]
  ·rw [gN,aCN h j (by omega),zdf h,zcf]
theorem TrP.scan {c:Dc} {n:Int} {s:Dc×Int} {b:Int} (h:TrP c n s b) {t:Nat} (f:t<c.gr.length):TrP c n (cB s.1 t (aW s.1 t).1,s.2) b/\(aW s.1 t).2.length<=64:=by
 have e:t<s.1.ls.length:=by rw [h.ok.nl,h.gr];exact f
 obtain⟨-,q2,j,-⟩:=uT h.ok e;exact⟨⟨j,h.gr,h.fr,h.lo,h.hi,h.le⟩,q2⟩
theorem aLU {c:Dc} (h:Ok c) {t:Nat} (f:t<c.gr.length) {n:Int} (e:0<=n):∀k,TrP c n (cR c t n k) (64*k)
 |0=>⟨h,rfl,rfl,Int.le_refl _,by show(0:Int)<=_;omega,e⟩
 |k+1=>by
  have j:=aLU h f e k;rw [cR]
  cases decide ((cR c t n k).2<n) with
  |false=>exact j.wid (by omega)
  |true=> rw [zct];obtain⟨k1,k2⟩:=j.scan f;exact(aMN k1 _).wid (by omega)
theorem aK0 {c:Dc} {t:Nat} {n:Int} {i:Nat} (h:¬(cR c t n i).2<n):∀j,i<=j->cR c t n j=cR c t n i
 |0,f=>by
  obtain rfl:i=0:=by omega
  rfl
 |j+1,f=>by
  by_cases e:i=j+1
  ·rw [e]
  ·rw [cR,aK0 h j (by omega),zdf h,zcf]
theorem bBG {c:Dc} {t:Nat} {n:Int} (z:1<=n) {k i:Nat} (m:k<2)(j:(cR c.x t n k).2<n)(hi:i<=(aW (cR c.x t n k).1 t).2.length)
 (h2:¬(fY n (aW (cR c.x t n k).1 t).2 (cB (cR c.x t n k).1 t (aW (cR c.x t n k).1 t).1,(cR c.x t n k).2) i).2<n):
 jE c t n=fY n (aW (cR c.x t n k).1 t).2 (cB (cR c.x t n k).1 t (aW (cR c.x t n k).1 t).1,(cR c.x t n k).2) i:=by
 have e1:cR c.x t n (k+1)=fY n (aW (cR c.x t n k).1 t).2 (cB (cR c.x t n k).1 t (aW (cR c.x t n k).1 t).1,(cR c.x t n k).2) i:=by rw [cR,zdt j,zct,aKQ h2 _ hi]
 have f:¬(cR c.x t n (k+1)).2<n:=by rw [e1];exact h2
 have e:=aK0 f 2 (by omega);unfold jE;rw [zdf (show ¬n<1 by omega),zcf];have h4:¬(gN n ((cR c.x t n 2).1.ls.getD t l0).A (cR c.x t n 2) 0).2<n:=by show ¬(cR c.x t n 2).2<n;rw [e];exact f
 rw [aCN h4 _ (Nat.zero_le _)];show cR c.x t n 2=_;rw [e,e1]
theorem bBF {c:Dc} {t:Nat} {n:Int} (e:1<=n) {i:Nat} (hi:i<=((cR c.x t n 2).1.ls.getD t l0).A.length)(h:¬(gN n ((cR c.x t n 2).1.ls.getD t l0).A (cR c.x t n 2) i).2<n):
 jE c t n=gN n ((cR c.x t n 2).1.ls.getD t l0).A (cR c.x t n 2) i:=by
 unfold jE;rw [zdf (show ¬n<1 by omega),zcf];exact aCN h _ hi
theorem aSO {d:Dc} {m:Nat} (hm:m<d.fr.length)(h:lN (d.fr.getD m none)=true):(evP d ((m+1:Nat):Int)).2=0:=by
 cases j:d.fr.getD m none with
 |none=>rw [j] at h;cases h
 |some u=>
  rw [j] at h;unfold lN at h;dsimp only at h;unfold evP;rcases cE d ((m+1:Nat):Int) with ⟨e,f⟩| ⟨C,F,e,D,E,h2⟩
  ·exfalso;unfold fK at f;rw [zdt (show(1:Int)<=((m+1:Nat):Int) by omega),zdt (show((m+1:Nat):Int)<=(d.fr.length:Int) by omega),show(((m+1:Nat):Int)-1).toNat=m by omega,j] at f;cases f
  ·obtain rfl:C=m:=by omega
   rw [j,zse] at h2;subst h2;rw [e];dsimp only
   cases z:iJ u with
   |false=>rw [z] at h;cases h
   |true=>
    rw [z,zct] at h;have B:u.p.d=0:=by have :=zbe.1 h;omega
    rw [Bool.true_and,zdt B,zct]
theorem aJJ {c:Dc} {m:Nat} (h:lN (c.fr.getD m none)=false):∀k,m<k->((m+1:Nat):Int)∈dY c k
 |0,j=>by omega
 |k+1,j=>by
  rw [dY]
  by_cases e:m=k
  ·subst e;rw [h,zcf];exact List.mem_append.2 (.inr (List.mem_singleton.2 rfl))
  ·have f:=aJJ h k (by omega)
   cases lN (c.fr.getD k none) with
   |true=>exact f
   |false=>exact List.mem_append.2 (.inl f)
theorem aUD(e held:List Int)(n:Int):∀(r:List Int) (s:ScS),∃w,(jG e held n r s).v=s.v++w/\w.Sublist r/\∀x∈w,x∉held/\x∉e
 | [],s=>⟨[],by simp [jG],List.Sublist.slnil,by simp⟩
 |f::r,s=>by
  rw [jG]
  cases decide ((s.v.length:Int)<n) with
  |false=>exact⟨[],by simp,List.nil_sublist _,by simp⟩
  |true=>
   rw [zct];obtain⟨w,j,h2,m⟩:=aUD e held n r (lR e held s f)
   by_cases a:f∈held
   ·refine⟨w,?_,h2.cons _,m⟩;rw [j];unfold lR;rw [zdt a,zct]
   ·by_cases b:f∈e
    ·refine⟨w,?_,h2.cons _,m⟩;rw [j];unfold lR;rw [zdf a,zcf,zdt b,zct]
    ·refine⟨f::w,?_,h2.cons_cons _,λx z=>?_⟩
     ·rw [j];unfold lR;rw [zdf a,zcf,zdf b,zcf];show(s.v++ [f])++w=s.v++f::w;rw [List.append_assoc];rfl
     ·rcases List.mem_cons.1 z with rfl |z
      ·exact⟨a,b⟩
      ·exact m x z
structure bIC(d:Dc)(t:Nat)(v:List Int):Prop where
 nodup:v.Nodup
 at_:∀x∈v,∃m u,m<d.fr.length/\x=((m+1:Nat):Int)/\d.fr.getD m none=some u/\u.ten=t/\lN (d.fr.getD m none)=true
theorem bER {d:Dc} (h:Ok d) {t:Nat} (z:t<d.ls.length):bIC d t (aW d t).2:=by
 have G:=(bF _).1 (h.ls t z);obtain⟨e,D⟩:=G.tK;have e:gV (gX d t):=e;unfold aW kS;rw [(bF _).2 e,Bool.not_true,zcf];dsimp only;obtain⟨w,E,h2,F⟩:=aUD (gX d t).R (dY d d.fr.length) ((gX d t).I.length:Int) (gX d t).I.reverse ⟨(gX d t).I,(gX d t).R,[]⟩;rw [E,List.nil_append];refine⟨h2.nodup (List.pairwise_reverse.2 ((List.nodup_append.1 e.nodup).2.1.imp λh=>Ne.symm h)),λx B=>?_⟩;have j:x∈(gX d t).I:=List.mem_reverse.1 (h2.subset B)
 have f:tD (d.ls.getD t l0) x:=List.mem_append.1 (D.mem_iff.1 (List.mem_append.2 (.inr j)));obtain⟨m,u,C,rfl,J,K⟩:=h.mem t x z f;refine⟨m,u,C,rfl,J,K,?_⟩
 cases H:lN (d.fr.getD m none) with
 |true=>rfl
 |false=>exact absurd (aJJ H d.fr.length C) (F _ B).1
theorem bIV {c:Dc} {n:Int} {m:Nat} (h:n≠((m+1:Nat):Int)):(evP c n).1.fr.getD m none=c.fr.getD m none:=by
 unfold evP;rcases cE c n with ⟨e,j⟩| ⟨z,u,e,rfl,f,h2⟩
 ·rw [e];rfl
 ·rw [e];dsimp only
  cases(iJ u&&decide (u.p.d=0)) with
  |false=>rfl
  |true=>exact getD_set_ne _ _ _ (by omega)
theorem aUR {n:Int} {v:List Int} {s:Dc×Int} {m:Nat} :∀i,(∀j,j<i->v.getD j 0≠((m+1:Nat):Int))->(fY n v s i).1.fr.getD m none=s.1.fr.getD m none
 |0,_=>rfl
 |i+1,h=>by
  have e:=aUR (n:=n) (s:=s) i λj f=>h j (by omega);rw [fY]
  cases decide ((fY n v s i).2<n) with
  |false=>exact e
  |true=>
   rw [zct]
   cases((evP (fY n v s i).1 (v.getD i 0)).2==0) with
   |false=>exact e
   |true=>exact(bIV (h i (by omega))).trans e
theorem bL7 {d:Dc} {t:Nat} {v:List Int} (h:bIC d t v) {n:Int} {s:Dc×Int} (C:s.1.fr=d.fr) {i:Nat} (hi:i<v.length):
 ∃m,m<d.fr.length/\v.getD i 0=((m+1:Nat):Int)/\lN ((fY n v s i).1.fr.getD m none)=true:=by
 have e:v.getD i 0=v[i]:=by simp [zA,hi]
 obtain⟨m,u,D,z,G,H,E⟩:=h.at_ _ (zC hi);refine⟨m,D,e.trans z,?_⟩;rw [aUR i λj F f=>?_,C]
 ·exact E
 ·have B:v.getD j 0=v[j]:=by simp [zA,show j<v.length by omega]
  rw [B,<-z] at f;exact absurd ((List.getElem_inj h.nodup).1 f) (by omega)
theorem aX9 {d:Dc} {t:Nat} {v:List Int} (h:bIC d t v) {n:Int} {s:Dc×Int} (j:s.1.fr=d.fr) {i:Nat} (hi:i<v.length)(C:(fY n v s i).1.fr.length=d.fr.length)(f:(fY n v s i).2<n):
 (evP (fY n v s i).1 (v.getD i 0)).2=0/\fY n v s (i+1)=((evP (fY n v s i).1 (v.getD i 0)).1,(fY n v s i).2+1):=by
 obtain⟨m,D,z,B⟩:=bL7 h (n:=n) j hi;have e:=aSO (d:=(fY n v s i).1) (m:=m) (by omega) B;rw [<-z] at e;refine⟨e,?_⟩;rw [fY,zdt f,zct,e];rfl
theorem bIE {d:Dc} (h:Ok d) {t:Nat} (f:t<d.ls.length) {i:Nat} (hi:i< (d.ls.getD t l0).A.length):
 ∃m,m<d.fr.length/\(d.ls.getD t l0).A.getD ((d.ls.getD t l0).A.length-1-i) 0=((m+1:Nat):Int):=by
 have e:(d.ls.getD t l0).A.getD ((d.ls.getD t l0).A.length-1-i) 0=(d.ls.getD t l0).A[(d.ls.getD t l0).A.length-1-i]:=by rw [zA,List.getElem?_eq_getElem (show(d.ls.getD t l0).A.length-1-i< (d.ls.getD t l0).A.length by omega)];rfl
 obtain⟨m,u,j,z,-⟩:=h.mem t _ f (.inl (zC (show(d.ls.getD t l0).A.length-1-i< (d.ls.getD t l0).A.length by omega)));exact⟨m,j,e.trans z⟩
end Go.Proofs.YtmhapcbjjpadnaaGreat
