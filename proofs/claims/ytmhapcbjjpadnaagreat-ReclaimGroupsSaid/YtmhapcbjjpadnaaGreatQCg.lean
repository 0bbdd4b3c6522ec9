/- Caches. -/
import Derived.Test.YtmhapcbjjpadnaaGreatGYg
import Derived.Test.YtmhapcbjjpadnaaGreatGOg
import Derived.Test.YtmhapcbjjpadnaaGreatQBg
set_option linter.all false
set_option maxRecDepth 40000
open Int renaming toNat_natCast→zD
open List renaming getD_eq_getElem?_getD→zA,length_set→zC,mem_cons_of_mem→zE,mem_cons_self→zF,getElem_mem→zH
open Nat renaming le_refl→zG
namespace Go.Proofs.YtmhapcbjjpadnaaGreat
open Go Go.Sk Go.RowKit
theorem Sim.ok {a b:Dc} (s:Sim a b)(h:Ok b):Ok a:=by
 obtain⟨fl,fr,j,gr,ls,Z,pt⟩:=a;obtain⟨J,K,G,M,W,H,Y⟩:=b;obtain⟨e1,m,f,B,C,D,E⟩:=s;dsimp only at e1 m f B C D E;subst e1 m B C D E;refine⟨h.nf,h.nr,h.ng,h.nl,h.nk,h.file,λn u N O=>?_,h.ent,by rw [show aZ j=aZ G from f.check];exact h.zone,λz T x R=>?_,h.gr,h.ls,h.mem,h.ck,h.pt⟩
 ·have k:=h.use n u N O;exact⟨k.file,k.page,k.pg,k.ten,k.holds,k.rd,k.wr,k.val⟩
 ·have F:jD z∈j.map jD:=List.mem_map_of_mem T;rw [show j.map jD=G.map jD from f] at F;obtain⟨w,Q,e⟩:=List.mem_map.1 F;have e:w.free=z.free:=by unfold jD at e;rw [Zn.mk.injEq] at e;exact e.2.2.2.2.2.1
  exact h.free w Q x (by rw [e];exact R)
theorem aXM {a:Dc} (h:Ok a)(n:Int):Ok (lA a n).1:=(aXN h n).1.ok (aXH h n)
def dB(n:Int)(v:List Int)(s:Dc×Int):Nat->Dc×Int
 |0=>s
 |i+1=>bif decide ((dB n v s i).2<n) then(bif (lA (dB n v s i).1 (v.getD i 0)).2==0 then((lA (dB n v s i).1 (v.getD i 0)).1,(dB n v s i).2+1) else dB n v s i) else dB n v s i
def cV(n:Int)(a:List Int)(s:Dc×Int):Nat->Dc×Int
 |0=>s
 |i+1=>bif decide ((cV n a s i).2<n) then(bif kK ((cV n a s i).1.fr.getD (a.getD (a.length-1-i) 0-1).toNat none) then((lA (cV n a s i).1 (a.getD (a.length-1-i) 0)).1,(cV n a s i).2+1) else cV n a s i) else cV n a s i
def aV(c:Dc)(t:Nat)(n:Int):Nat->Dc×Int
 |0=>(c,0)
 |k+1=>bif decide ((aV c t n k).2<n) then dB n (cK (aV c t n k).1 t).2 (dX (aV c t n k).1 t (cK (aV c t n k).1 t).1,(aV c t n k).2) (cK (aV c t n k).1 t).2.length else aV c t n k
def fA(c:Dc)(t:Nat)(n:Int):Dc×Int:=bif decide (n<1) then(c.x,0) else cV n ((aV c.x t n 2).1.ls.getD t l0).A (aV c.x t n 2) ((aV c.x t n 2).1.ls.getD t l0).A.length
structure bTC(s r:Dc×Int):Prop where
 sim:Sim s.1 r.1
 eq:s.2=r.2
structure TrP(c:Dc)(n:Int)(s:Dc×Int)(b:Int):Prop where
 ok:Ok s.1
 gr:s.1.gr.length=c.gr.length
 fr:s.1.fr.length=c.fr.length
 lo:0<=s.2
 hi:s.2<=b
 le:s.2<=n
theorem TrP.wid {c:Dc} {n:Int} {s:Dc×Int} {b f:Int} (h:TrP c n s b)(e:b<=f):TrP c n s f:=⟨h.ok,h.gr,h.fr,h.lo,by have :=h.hi;omega,h.le⟩
theorem aXJ {c:Dc} (h:Ok c)(n:Int):(lA c n).1.gr.length=c.gr.length/\(lA c n).1.fr.length=c.fr.length:=by have s:=(aXN h n).1;have k:=(pT.ev c n).sh h;have h1:=k.2.gr;rw [s.gr,s.fr];exact⟨h1,k.2.fr⟩
theorem TrP.ev {c:Dc} {n:Int} {s:Dc×Int} {b:Int} (h:TrP c n s b)(f:s.2<n)(x:Int):TrP c n ((lA s.1 x).1,s.2+1) (b+1):=by obtain⟨e1,e⟩:=aXJ h.ok x;have :=h.lo;have :=h.hi;exact⟨aXM h.ok x,e1.trans h.gr,e.trans h.fr,by dsimp only;omega,by dsimp only;omega,by dsimp only;omega⟩
theorem aFC {c:Dc} {n:Int} {v:List Int} {s:Dc×Int} {b:Int} (h:TrP c n s b):∀i,TrP c n (dB n v s i) (b+i)
 |0=>h.wid (by omega)
 |i+1=>by
  have f:=aFC (v:=v) h i;rw [dB]
  by_cases e:(dB n v s i).2<n
  ·rw [zdt e,zct]
   cases((lA (dB n v s i).1 (v.getD i 0)).2==0) with
   |false=>exact f.wid (by omega)
   |true=>exact(f.ev e _).wid (by omega)
  ·rw [zdf e];exact f.wid (by omega)
theorem aK4 {n:Int} {v:List Int} {s:Dc×Int} {i:Nat} (h:¬(dB n v s i).2<n):∀j,i<=j->dB n v s j=dB n v s i
 |0,f=>by
  obtain rfl:i=0:=by omega
  rfl
 |j+1,f=>by
  by_cases e:i=j+1
  ·rw [e]
  ·rw [dB,aK4 h j (by omega),zdf h,zcf]
theorem aET {c:Dc} {n:Int} {a:List Int} {s:Dc×Int} {b:Int} (h:TrP c n s b):∀i,TrP c n (cV n a s i) (b+i)
 |0=>h.wid (by omega)
 |i+1=>by
  have f:=aET (a:=a) h i;rw [cV]
  by_cases e:(cV n a s i).2<n
  ·rw [zdt e,zct]
   cases kK ((cV n a s i).1.fr.getD (a.getD (a.length-1-i) 0-1).toNat none) with
   |false=>exact f.wid (by omega)
   |true=>exact(f.ev e _).wid (by omega)
  ·rw [zdf e];exact f.wid (by omega)
theorem uN {n:Int} {a:List Int} {s:Dc×Int} {i:Nat} (h:¬(cV n a s i).2<n):∀j,i<=j->cV n a s j=cV n a s i
 |0,f=>by
  obtain rfl:i=0:=by omega
  rfl
 |j+1,f=>by
  by_cases e:i=j+1
  ·rw [e]
  ·rw [cV,uN h j (by omega),zdf h,zcf]
theorem TrP.scan {c:Dc} {n:Int} {s:Dc×Int} {b:Int} (h:TrP c n s b) {t:Nat} (f:t<c.gr.length):TrP c n (dX s.1 t (cK s.1 t).1,s.2) b/\(cK s.1 t).2.length<=64:=by
 have e:t<s.1.ls.length:=by rw [h.ok.nl,h.gr];exact f
 obtain⟨-,q2,j,-⟩:=aHR h.ok e;exact⟨⟨j,h.gr,h.fr,h.lo,h.hi,h.le⟩,q2⟩
theorem aBE {c:Dc} (h:Ok c) {t:Nat} (f:t<c.gr.length) {n:Int} (e:0<=n):∀k,TrP c n (aV c t n k) (64*k)
 |0=>⟨h,rfl,rfl,Int.le_refl _,by show(0:Int)<=_;omega,e⟩
 |k+1=>by
  have j:=aBE h f e k;rw [aV]
  cases decide ((aV c t n k).2<n) with
  |false=>exact j.wid (by omega)
  |true=> rw [zct];obtain⟨k1,k2⟩:=j.scan f;exact(aFC k1 _).wid (by omega)
theorem aJJ {c:Dc} {t:Nat} {n:Int} {i:Nat} (h:¬(aV c t n i).2<n):∀j,i<=j->aV c t n j=aV c t n i
 |0,f=>by
  obtain rfl:i=0:=by omega
  rfl
 |j+1,f=>by
  by_cases e:i=j+1
  ·rw [e]
  ·rw [aV,aJJ h j (by omega),zdf h,zcf]
theorem bAV {c:Dc} {t:Nat} {n:Int} (m:1<=n) {k i:Nat} (j:k<2)(h1:(aV c.x t n k).2<n)(hi:i<=(cK (aV c.x t n k).1 t).2.length)
 (h2:¬(dB n (cK (aV c.x t n k).1 t).2 (dX (aV c.x t n k).1 t (cK (aV c.x t n k).1 t).1,(aV c.x t n k).2) i).2<n):
 fA c t n=dB n (cK (aV c.x t n k).1 t).2 (dX (aV c.x t n k).1 t (cK (aV c.x t n k).1 t).1,(aV c.x t n k).2) i:=by
 have e1:aV c.x t n (k+1)=dB n (cK (aV c.x t n k).1 t).2 (dX (aV c.x t n k).1 t (cK (aV c.x t n k).1 t).1,(aV c.x t n k).2) i:=by rw [aV,zdt h1,zct,aK4 h2 _ hi]
 have f:¬(aV c.x t n (k+1)).2<n:=by rw [e1];exact h2
 have e:=aJJ f 2 (by omega);unfold fA;rw [zdf (show ¬n<1 by omega),zcf];have h4:¬(cV n ((aV c.x t n 2).1.ls.getD t l0).A (aV c.x t n 2) 0).2<n:=by show ¬(aV c.x t n 2).2<n;rw [e];exact f
 rw [uN h4 _ (Nat.zero_le _)];show aV c.x t n 2=_;rw [e,e1]
theorem bAU {c:Dc} {t:Nat} {n:Int} (e:1<=n) {i:Nat} (hi:i<=((aV c.x t n 2).1.ls.getD t l0).A.length)(h:¬(cV n ((aV c.x t n 2).1.ls.getD t l0).A (aV c.x t n 2) i).2<n):
 fA c t n=cV n ((aV c.x t n 2).1.ls.getD t l0).A (aV c.x t n 2) i:=by
 unfold fA;rw [zdf (show ¬n<1 by omega),zcf];exact uN h _ hi
theorem aEY {d:Dc} {m:Nat} (hm:m<d.fr.length)(h:kK (d.fr.getD m none)=true):(lA d ((m+1:Nat):Int)).2=0:=by
 cases j:d.fr.getD m none with
 |none=>rw [j] at h;cases h
 |some u=>
  rw [j] at h;unfold kK at h;dsimp only at h;unfold lA;rcases bN d ((m+1:Nat):Int) with ⟨e,f⟩| ⟨C,E,e,D,h1,h2⟩
  ·exfalso;unfold fZ at f;rw [zdt (show(1:Int)<=((m+1:Nat):Int) by omega),zdt (show((m+1:Nat):Int)<=(d.fr.length:Int) by omega),show(((m+1:Nat):Int)-1).toNat=m by omega,j] at f;cases f
  ·obtain rfl:C=m:=by omega
   rw [j,zse] at h2;subst h2;rw [e];dsimp only
   cases z:dW u with
   |false=>rw [z] at h;cases h
   |true=>
    rw [z,zct] at h;have B:u.p.d=0:=by have :=zbe.1 h;omega
    rw [Bool.true_and,zdt B,zct]
theorem aIZ {c:Dc} {m:Nat} (h:kK (c.fr.getD m none)=false):∀k,m<k->((m+1:Nat):Int)∈eK c k
 |0,j=>by omega
 |k+1,j=>by
  rw [eK]
  by_cases e:m=k
  ·subst e;rw [h,zcf];exact List.mem_append.2 (.inr (List.mem_singleton.2 rfl))
  ·have f:=aIZ h k (by omega)
   cases kK (c.fr.getD k none) with
   |true=>exact f
   |false=>exact List.mem_append.2 (.inl f)
theorem aTH(e held:List Int)(n:Int):∀(r:List Int) (s:ScS),∃w,(lE e held n r s).v=s.v++w/\w.Sublist r/\∀x∈w,x∉held/\x∉e
 | [],s=>⟨[],by simp [lE],List.Sublist.slnil,by simp⟩
 |f::r,s=>by
  rw [lE]
  cases decide ((s.v.length:Int)<n) with
  |false=>exact⟨[],by simp,List.nil_sublist _,by simp⟩
  |true=>
   rw [zct];obtain⟨w,h1,h2,j⟩:=aTH e held n r (fY e held s f)
   by_cases a:f∈held
   ·refine⟨w,?_,h2.cons _,j⟩;rw [h1];unfold fY;rw [zdt a,zct]
   ·by_cases b:f∈e
    ·refine⟨w,?_,h2.cons _,j⟩;rw [h1];unfold fY;rw [zdf a,zcf,zdt b,zct]
    ·refine⟨f::w,?_,h2.cons_cons _,λx m=>?_⟩
     ·rw [h1];unfold fY;rw [zdf a,zcf,zdf b,zcf];show(s.v++ [f])++w=s.v++f::w;rw [List.append_assoc];rfl
     ·rcases List.mem_cons.1 m with rfl |m
      ·exact⟨a,b⟩
      ·exact j x m
structure aWL(d:Dc)(t:Nat)(v:List Int):Prop where
 nodup:v.Nodup
 at_:∀x∈v,∃m u,m<d.fr.length/\x=((m+1:Nat):Int)/\d.fr.getD m none=some u/\u.ten=t/\kK (d.fr.getD m none)=true
theorem aLN {d:Dc} (h:Ok d) {t:Nat} (z:t<d.ls.length):aWL d t (cK d t).2:=by
 have hc:=(bX _).1 (h.ls t z);obtain⟨e,D⟩:=hc.rF;have e:gZ (gB d t):=e;unfold cK mO;rw [(bX _).2 e,Bool.not_true,zcf];dsimp only;obtain⟨w,h1,h2,E⟩:=aTH (gB d t).R (eK d d.fr.length) ((gB d t).I.length:Int) (gB d t).I.reverse ⟨(gB d t).I,(gB d t).R,[]⟩;rw [h1,List.nil_append];refine⟨h2.nodup (List.pairwise_reverse.2 ((List.nodup_append.1 e.nodup).2.1.imp λh=>Ne.symm h)),λx B=>?_⟩;have j:x∈(gB d t).I:=List.mem_reverse.1 (h2.subset B)
 have f:rS (d.ls.getD t l0) x:=List.mem_append.1 (D.mem_iff.1 (List.mem_append.2 (.inr j)));obtain⟨m,u,C,rfl,G,H⟩:=h.mem t x z f;refine⟨m,u,C,rfl,G,H,?_⟩
 cases F:kK (d.fr.getD m none) with
 |true=>rfl
 |false=>exact absurd (aIZ F d.fr.length C) (E _ B).1
theorem bI6 {c:Dc} {n:Int} {m:Nat} (h:n≠((m+1:Nat):Int)):(lA c n).1.fr.getD m none=c.fr.getD m none:=by
 unfold lA;rcases bN c n with ⟨e,f⟩| ⟨j,u,e,rfl,h1,h2⟩
 ·rw [e];rfl
 ·rw [e];dsimp only
  cases(dW u&&decide (u.p.d=0)) with
  |false=>rfl
  |true=>exact getD_set_ne _ _ _ (by omega)
theorem aTS {n:Int} {v:List Int} {s:Dc×Int} {m:Nat} :∀i,(∀j,j<i->v.getD j 0≠((m+1:Nat):Int))->(dB n v s i).1.fr.getD m none=s.1.fr.getD m none
 |0,_=>rfl
 |i+1,h=>by
  have e:=aTS (n:=n) (s:=s) i λj f=>h j (by omega);rw [dB]
  cases decide ((dB n v s i).2<n) with
  |false=>exact e
  |true=>
   rw [zct]
   cases((lA (dB n v s i).1 (v.getD i 0)).2==0) with
   |false=>exact e
   |true=>exact(bI6 (h i (by omega))).trans e
theorem bB6 {d:Dc} {t:Nat} {v:List Int} (h:aWL d t v) {n:Int} {s:Dc×Int} (C:s.1.fr=d.fr) {i:Nat} (hi:i<v.length):
 ∃m,m<d.fr.length/\v.getD i 0=((m+1:Nat):Int)/\kK ((dB n v s i).1.fr.getD m none)=true:=by
 have e:v.getD i 0=v[i]:=by simp [zA,hi]
 obtain⟨m,u,D,z,G,H,E⟩:=h.at_ _ (zH hi);refine⟨m,D,e.trans z,?_⟩;rw [aTS i λj F f=>?_,C]
 ·exact E
 ·have B:v.getD j 0=v[j]:=by simp [zA,show j<v.length by omega]
  rw [B,<-z] at f;exact absurd ((List.getElem_inj h.nodup).1 f) (by omega)
theorem aK5 {d:Dc} {t:Nat} {v:List Int} (h:aWL d t v) {n:Int} {s:Dc×Int} (j:s.1.fr=d.fr) {i:Nat} (hi:i<v.length)(C:(dB n v s i).1.fr.length=d.fr.length)(f:(dB n v s i).2<n):
 (lA (dB n v s i).1 (v.getD i 0)).2=0/\dB n v s (i+1)=((lA (dB n v s i).1 (v.getD i 0)).1,(dB n v s i).2+1):=by
 obtain⟨m,D,z,B⟩:=bB6 h (n:=n) j hi;have e:=aEY (d:=(dB n v s i).1) (m:=m) (by omega) B;rw [<-z] at e;refine⟨e,?_⟩;rw [dB,zdt f,zct,e];rfl
theorem bHP {d:Dc} (h:Ok d) {t:Nat} (f:t<d.ls.length) {i:Nat} (hi:i< (d.ls.getD t l0).A.length):
 ∃m,m<d.fr.length/\(d.ls.getD t l0).A.getD ((d.ls.getD t l0).A.length-1-i) 0=((m+1:Nat):Int):=by
 have e:(d.ls.getD t l0).A.getD ((d.ls.getD t l0).A.length-1-i) 0=(d.ls.getD t l0).A[(d.ls.getD t l0).A.length-1-i]:=by rw [zA,List.getElem?_eq_getElem (show(d.ls.getD t l0).A.length-1-i< (d.ls.getD t l0).A.length by omega)];rfl
 obtain⟨m,u,j,z,-⟩:=h.mem t _ f (.inl (zH (show(d.ls.getD t l0).A.length-1-i< (d.ls.getD t l0).A.length by omega)));exact⟨m,j,e.trans z⟩
end Go.Proofs.YtmhapcbjjpadnaaGreat
