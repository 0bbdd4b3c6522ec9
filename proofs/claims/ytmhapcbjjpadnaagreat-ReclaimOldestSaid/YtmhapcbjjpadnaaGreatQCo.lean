/- Caches. -/
import Derived.Test.YtmhapcbjjpadnaaGreatGYo
import Derived.Test.YtmhapcbjjpadnaaGreatGOo
import Derived.Test.YtmhapcbjjpadnaaGreatQBo
set_option linter.all false
set_option maxRecDepth 40000
open List renaming getD_eq_getElem?_getD→zA,getElem_mem→zC
namespace Go.Proofs.YtmhapcbjjpadnaaGreat
open Go Go.Sk Go.RowKit
theorem Sim.ok {a b:Dc} (s:Sim a b)(h:Ok b):Ok a:=by
 obtain⟨fl,fr,j,gr,ls,Z,pt⟩:=a;obtain⟨J,K,G,M,W,H,Y⟩:=b;obtain⟨e1,m,f,B,C,D,E⟩:=s;dsimp only at e1 m f B C D E;subst e1 m B C D E;refine⟨h.nf,h.nr,h.ng,h.nl,h.nk,h.file,λn u N O=>?_,h.ent,by rw [show aX j=aX G from f.check];exact h.zone,λz T x R=>?_,h.gr,h.ls,h.mem,h.ck,h.pt⟩
 ·have k:=h.use n u N O;exact⟨k.file,k.page,k.pg,k.ten,k.holds,k.rd,k.wr,k.val⟩
 ·have F:iX z∈j.map iX:=List.mem_map_of_mem T;rw [show j.map iX=G.map iX from f] at F;obtain⟨w,Q,e⟩:=List.mem_map.1 F;have e:w.free=z.free:=by unfold iX at e;rw [Zn.mk.injEq] at e;exact e.2.2.2.2.2.1
  exact h.free w Q x (by rw [e];exact R)
theorem aVX {a:Dc} (h:Ok a)(n:Int):Ok (jS a n).1:=(aVY h n).1.ok (aVR h n)
def cA(n:Int)(v:List Int)(s:Dc×Int):Nat->Dc×Int
 |0=>s
 |i+1=>bif decide ((cA n v s i).2<n) then(bif (jS (cA n v s i).1 (v.getD i 0)).2==0 then((jS (cA n v s i).1 (v.getD i 0)).1,(cA n v s i).2+1) else cA n v s i) else cA n v s i
def cK(n:Int)(a:List Int)(s:Dc×Int):Nat->Dc×Int
 |0=>s
 |i+1=>bif decide ((cK n a s i).2<n) then(bif jL ((cK n a s i).1.fr.getD (a.getD (a.length-1-i) 0-1).toNat none) then((jS (cK n a s i).1 (a.getD (a.length-1-i) 0)).1,(cK n a s i).2+1) else cK n a s i) else cK n a s i
def aL(c:Dc)(t:Nat)(n:Int):Nat->Dc×Int
 |0=>(c,0)
 |k+1=>bif decide ((aL c t n k).2<n) then cA n (bP (aL c t n k).1 t).2 (cP (aL c t n k).1 t (bP (aL c t n k).1 t).1,(aL c t n k).2) (bP (aL c t n k).1 t).2.length else aL c t n k
def cR(c:Dc)(t:Nat)(n:Int):Dc×Int:=bif decide (n<1) then(c.x,0) else cK n ((aL c.x t n 2).1.ls.getD t l0).A (aL c.x t n 2) ((aL c.x t n 2).1.ls.getD t l0).A.length
structure bQY(s r:Dc×Int):Prop where
 sim:Sim s.1 r.1
 eq:s.2=r.2
structure TrP(c:Dc)(n:Int)(s:Dc×Int)(b:Int):Prop where
 ok:Ok s.1
 gr:s.1.gr.length=c.gr.length
 fr:s.1.fr.length=c.fr.length
 lo:0<=s.2
 hi:s.2<=b
 le:s.2<=n
theorem TrP.wid {c:Dc} {n:Int} {s:Dc×Int} {b f:Int} (h:TrP c n s b)(e:b<=f):TrP c n s f:=⟨h.ok,h.gr,h.fr,h.lo,by have :=h.hi;omega,h.le⟩
theorem aVU {c:Dc} (h:Ok c)(n:Int):(jS c n).1.gr.length=c.gr.length/\(jS c n).1.fr.length=c.fr.length:=by have s:=(aVY h n).1;have k:=(Stp.ev c n).sh h;have e:=k.2.gr;rw [s.gr,s.fr];exact⟨e,k.2.fr⟩
theorem TrP.ev {c:Dc} {n:Int} {s:Dc×Int} {b:Int} (h:TrP c n s b)(f:s.2<n)(x:Int):TrP c n ((jS s.1 x).1,s.2+1) (b+1):=by obtain⟨e1,e⟩:=aVU h.ok x;have :=h.lo;have :=h.hi;exact⟨aVX h.ok x,e1.trans h.gr,e.trans h.fr,by dsimp only;omega,by dsimp only;omega,by dsimp only;omega⟩
theorem aAY {c:Dc} {n:Int} {v:List Int} {s:Dc×Int} {b:Int} (h:TrP c n s b):∀i,TrP c n (cA n v s i) (b+i)
 |0=>h.wid (by omega)
 |i+1=>by
  have f:=aAY (v:=v) h i;rw [cA]
  by_cases e:(cA n v s i).2<n
  ·rw [zdt e,zct]
   cases((jS (cA n v s i).1 (v.getD i 0)).2==0) with
   |false=>exact f.wid (by omega)
   |true=>exact(f.ev e _).wid (by omega)
  ·rw [zdf e];exact f.wid (by omega)
theorem aIW {n:Int} {v:List Int} {s:Dc×Int} {i:Nat} (h:¬(cA n v s i).2<n):∀j,i<=j->cA n v s j=cA n v s i
 |0,f=>by
  obtain rfl:i=0:=by omega
  rfl
 |j+1,f=>by
  by_cases e:i=j+1
  ·rw [e]
  ·rw [cA,aIW h j (by omega),zdf h,zcf]
theorem aIZ {c:Dc} {n:Int} {a:List Int} {s:Dc×Int} {b:Int} (h:TrP c n s b):∀i,TrP c n (cK n a s i) (b+i)
 |0=>h.wid (by omega)
 |i+1=>by
  have f:=aIZ (a:=a) h i;rw [cK]
  by_cases e:(cK n a s i).2<n
  ·rw [zdt e,zct]
   cases jL ((cK n a s i).1.fr.getD (a.getD (a.length-1-i) 0-1).toNat none) with
   |false=>exact f.wid (by omega)
   |true=>exact(f.ev e _).wid (by omega)
  ·rw [zdf e];exact f.wid (by omega)
theorem pK {n:Int} {a:List Int} {s:Dc×Int} {i:Nat} (h:¬(cK n a s i).2<n):∀j,i<=j->cK n a s j=cK n a s i
 |0,f=>by
  obtain rfl:i=0:=by omega
  rfl
 |j+1,f=>by
  by_cases e:i=j+1
  ·rw [e]
  ·rw [cK,pK h j (by omega),zdf h,zcf]
theorem TrP.scan {c:Dc} {n:Int} {s:Dc×Int} {b:Int} (h:TrP c n s b) {t:Nat} (f:t<c.gr.length):TrP c n (cP s.1 t (bP s.1 t).1,s.2) b/\(bP s.1 t).2.length<=64:=by
 have e:t<s.1.ls.length:=by rw [h.ok.nl,h.gr];exact f
 obtain⟨-,q2,j,-⟩:=aGO h.ok e;exact⟨⟨j,h.gr,h.fr,h.lo,h.hi,h.le⟩,q2⟩
theorem aAL {c:Dc} (h:Ok c) {t:Nat} (f:t<c.gr.length) {n:Int} (e:0<=n):∀k,TrP c n (aL c t n k) (64*k)
 |0=>⟨h,rfl,rfl,Int.le_refl _,by show(0:Int)<=_;omega,e⟩
 |k+1=>by
  have j:=aAL h f e k;rw [aL]
  cases decide ((aL c t n k).2<n) with
  |false=>exact j.wid (by omega)
  |true=> rw [zct];obtain⟨k1,k2⟩:=j.scan f;exact(aAY k1 _).wid (by omega)
theorem aIH {c:Dc} {t:Nat} {n:Int} {i:Nat} (h:¬(aL c t n i).2<n):∀j,i<=j->aL c t n j=aL c t n i
 |0,f=>by
  obtain rfl:i=0:=by omega
  rfl
 |j+1,f=>by
  by_cases e:i=j+1
  ·rw [e]
  ·rw [aL,aIH h j (by omega),zdf h,zcf]
theorem aYX {c:Dc} {t:Nat} {n:Int} (z:1<=n) {k i:Nat} (m:k<2)(j:(aL c.x t n k).2<n)(hi:i<=(bP (aL c.x t n k).1 t).2.length)
 (h2:¬(cA n (bP (aL c.x t n k).1 t).2 (cP (aL c.x t n k).1 t (bP (aL c.x t n k).1 t).1,(aL c.x t n k).2) i).2<n):
 cR c t n=cA n (bP (aL c.x t n k).1 t).2 (cP (aL c.x t n k).1 t (bP (aL c.x t n k).1 t).1,(aL c.x t n k).2) i:=by
 have e1:aL c.x t n (k+1)=cA n (bP (aL c.x t n k).1 t).2 (cP (aL c.x t n k).1 t (bP (aL c.x t n k).1 t).1,(aL c.x t n k).2) i:=by rw [aL,zdt j,zct,aIW h2 _ hi]
 have f:¬(aL c.x t n (k+1)).2<n:=by rw [e1];exact h2
 have e:=aIH f 2 (by omega);unfold cR;rw [zdf (show ¬n<1 by omega),zcf];have h4:¬(cK n ((aL c.x t n 2).1.ls.getD t l0).A (aL c.x t n 2) 0).2<n:=by show ¬(aL c.x t n 2).2<n;rw [e];exact f
 rw [pK h4 _ (Nat.zero_le _)];show aL c.x t n 2=_;rw [e,e1]
theorem aYV {c:Dc} {t:Nat} {n:Int} (e:1<=n) {i:Nat} (hi:i<=((aL c.x t n 2).1.ls.getD t l0).A.length)(h:¬(cK n ((aL c.x t n 2).1.ls.getD t l0).A (aL c.x t n 2) i).2<n):
 cR c t n=cK n ((aL c.x t n 2).1.ls.getD t l0).A (aL c.x t n 2) i:=by
 unfold cR;rw [zdf (show ¬n<1 by omega),zcf];exact pK h _ hi
theorem aDR {d:Dc} {m:Nat} (hm:m<d.fr.length)(h:jL (d.fr.getD m none)=true):(jS d ((m+1:Nat):Int)).2=0:=by
 cases j:d.fr.getD m none with
 |none=>rw [j] at h;cases h
 |some u=>
  rw [j] at h;unfold jL at h;dsimp only at h;unfold jS;rcases cY d ((m+1:Nat):Int) with ⟨e,f⟩| ⟨C,F,e,D,E,h2⟩
  ·exfalso;unfold nP at f;rw [zdt (show(1:Int)<=((m+1:Nat):Int) by omega),zdt (show((m+1:Nat):Int)<=(d.fr.length:Int) by omega),show(((m+1:Nat):Int)-1).toNat=m by omega,j] at f;cases f
  ·obtain rfl:C=m:=by omega
   rw [j,zse] at h2;subst h2;rw [e];dsimp only
   cases z:iQ u with
   |false=>rw [z] at h;cases h
   |true=>
    rw [z,zct] at h;have B:u.p.d=0:=by have :=zbe.1 h;omega
    rw [Bool.true_and,zdt B,zct]
theorem aHX {c:Dc} {m:Nat} (h:jL (c.fr.getD m none)=false):∀k,m<k->((m+1:Nat):Int)∈eC c k
 |0,j=>by omega
 |k+1,j=>by
  rw [eC]
  by_cases e:m=k
  ·subst e;rw [h,zcf];exact List.mem_append.2 (.inr (List.mem_singleton.2 rfl))
  ·have f:=aHX h k (by omega)
   cases jL (c.fr.getD k none) with
   |true=>exact f
   |false=>exact List.mem_append.2 (.inl f)
theorem aS0(e held:List Int)(n:Int):∀(r:List Int) (s:ScS),∃w,(jD e held n r s).v=s.v++w/\w.Sublist r/\∀x∈w,x∉held/\x∉e
 | [],s=>⟨[],by simp [jD],List.Sublist.slnil,by simp⟩
 |f::r,s=>by
  rw [jD]
  cases decide ((s.v.length:Int)<n) with
  |false=>exact⟨[],by simp,List.nil_sublist _,by simp⟩
  |true=>
   rw [zct];obtain⟨w,j,h2,m⟩:=aS0 e held n r (eR e held s f)
   by_cases a:f∈held
   ·refine⟨w,?_,h2.cons _,m⟩;rw [j];unfold eR;rw [zdt a,zct]
   ·by_cases b:f∈e
    ·refine⟨w,?_,h2.cons _,m⟩;rw [j];unfold eR;rw [zdf a,zcf,zdt b,zct]
    ·refine⟨f::w,?_,h2.cons_cons _,λx z=>?_⟩
     ·rw [j];unfold eR;rw [zdf a,zcf,zdf b,zcf];show(s.v++ [f])++w=s.v++f::w;rw [List.append_assoc];rfl
     ·rcases List.mem_cons.1 z with rfl |z
      ·exact⟨a,b⟩
      ·exact m x z
structure aO2(d:Dc)(t:Nat)(v:List Int):Prop where
 nodup:v.Nodup
 at_:∀x∈v,∃m u,m<d.fr.length/\x=((m+1:Nat):Int)/\d.fr.getD m none=some u/\u.ten=t/\jL (d.fr.getD m none)=true
theorem aE6 {d:Dc} (h:Ok d) {t:Nat} (z:t<d.ls.length):aO2 d t (bP d t).2:=by
 have G:=(bX _).1 (h.ls t z);obtain⟨e,D⟩:=G.pL;have e:gT (fF d t):=e;unfold bP lU;rw [(bX _).2 e,Bool.not_true,zcf];dsimp only;obtain⟨w,E,h2,F⟩:=aS0 (fF d t).R (eC d d.fr.length) ((fF d t).I.length:Int) (fF d t).I.reverse ⟨(fF d t).I,(fF d t).R,[]⟩;rw [E,List.nil_append];refine⟨h2.nodup (List.pairwise_reverse.2 ((List.nodup_append.1 e.nodup).2.1.imp λh=>Ne.symm h)),λx B=>?_⟩;have j:x∈(fF d t).I:=List.mem_reverse.1 (h2.subset B)
 have f:vK (d.ls.getD t l0) x:=List.mem_append.1 (D.mem_iff.1 (List.mem_append.2 (.inr j)));obtain⟨m,u,C,rfl,J,K⟩:=h.mem t x z f;refine⟨m,u,C,rfl,J,K,?_⟩
 cases H:jL (d.fr.getD m none) with
 |true=>rfl
 |false=>exact absurd (aHX H d.fr.length C) (F _ B).1
theorem aVS {c:Dc} {n:Int} {m:Nat} (h:n≠((m+1:Nat):Int)):(jS c n).1.fr.getD m none=c.fr.getD m none:=by
 unfold jS;rcases cY c n with ⟨e,j⟩| ⟨z,u,e,rfl,f,h2⟩
 ·rw [e];rfl
 ·rw [e];dsimp only
  cases(iQ u&&decide (u.p.d=0)) with
  |false=>rfl
  |true=>exact getD_set_ne _ _ _ (by omega)
theorem aSA {n:Int} {v:List Int} {s:Dc×Int} {m:Nat} :∀i,(∀j,j<i->v.getD j 0≠((m+1:Nat):Int))->(cA n v s i).1.fr.getD m none=s.1.fr.getD m none
 |0,_=>rfl
 |i+1,h=>by
  have e:=aSA (n:=n) (s:=s) i λj f=>h j (by omega);rw [cA]
  cases decide ((cA n v s i).2<n) with
  |false=>exact e
  |true=>
   rw [zct]
   cases((jS (cA n v s i).1 (v.getD i 0)).2==0) with
   |false=>exact e
   |true=>exact(aVS (h i (by omega))).trans e
theorem aPN {d:Dc} {t:Nat} {v:List Int} (h:aO2 d t v) {n:Int} {s:Dc×Int} (C:s.1.fr=d.fr) {i:Nat} (hi:i<v.length):
 ∃m,m<d.fr.length/\v.getD i 0=((m+1:Nat):Int)/\jL ((cA n v s i).1.fr.getD m none)=true:=by
 have e:v.getD i 0=v[i]:=by simp [zA,hi]
 obtain⟨m,u,D,z,G,H,E⟩:=h.at_ _ (zC hi);refine⟨m,D,e.trans z,?_⟩;rw [aSA i λj F f=>?_,C]
 ·exact E
 ·have B:v.getD j 0=v[j]:=by simp [zA,show j<v.length by omega]
  rw [B,<-z] at f;exact absurd ((List.getElem_inj h.nodup).1 f) (by omega)
theorem aCA {d:Dc} {t:Nat} {v:List Int} (h:aO2 d t v) {n:Int} {s:Dc×Int} (j:s.1.fr=d.fr) {i:Nat} (hi:i<v.length)(C:(cA n v s i).1.fr.length=d.fr.length)(f:(cA n v s i).2<n):
 (jS (cA n v s i).1 (v.getD i 0)).2=0/\cA n v s (i+1)=((jS (cA n v s i).1 (v.getD i 0)).1,(cA n v s i).2+1):=by
 obtain⟨m,D,z,B⟩:=aPN h (n:=n) j hi;have e:=aDR (d:=(cA n v s i).1) (m:=m) (by omega) B;rw [<-z] at e;refine⟨e,?_⟩;rw [cA,zdt f,zct,e];rfl
theorem bFP {d:Dc} (h:Ok d) {t:Nat} (f:t<d.ls.length) {i:Nat} (hi:i< (d.ls.getD t l0).A.length):
 ∃m,m<d.fr.length/\(d.ls.getD t l0).A.getD ((d.ls.getD t l0).A.length-1-i) 0=((m+1:Nat):Int):=by
 have e:(d.ls.getD t l0).A.getD ((d.ls.getD t l0).A.length-1-i) 0=(d.ls.getD t l0).A[(d.ls.getD t l0).A.length-1-i]:=by rw [zA,List.getElem?_eq_getElem (show(d.ls.getD t l0).A.length-1-i< (d.ls.getD t l0).A.length by omega)];rfl
 obtain⟨m,u,j,z,-⟩:=h.mem t _ f (.inl (zC (show(d.ls.getD t l0).A.length-1-i< (d.ls.getD t l0).A.length by omega)));exact⟨m,j,e.trans z⟩
end Go.Proofs.YtmhapcbjjpadnaaGreat
