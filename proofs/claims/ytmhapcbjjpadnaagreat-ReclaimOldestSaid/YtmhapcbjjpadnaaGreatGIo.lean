/- Caches. -/
import Derived.Test.YtmhapcbjjpadnaaGreatGFo
import Derived.Test.YtmhapcbjjpadnaaGreatGGo
import Derived.Test.YtmhapcbjjpadnaaGreatG2o
import Derived.Test.YtmhapcbjjpadnaaGreatG6o
set_option linter.all false
set_option maxRecDepth 40000
open List renaming mem_cons→zA,getElem_mem→zC,cons_append→zD,getElem_cons_succ→zE,mem_append→zF,length_set→zG,getElem_of_mem→zH
namespace Go.Proofs.YtmhapcbjjpadnaaGreat
open Go Go.Sk Go.RowKit
def bP2(b:List UInt8)(k i:Nat):List UInt8:=(List.range b.length).map λj=>bif decide (j<i)&&decide (k<=j) then 0 else b.getD j 0
theorem aVZ {p:Pg} (h:gJ p) {s:Nat} (j:s<4)(d:ByteArray):gJ (bDV p s d):=by
 have e:∀v d t:Fin 4,sF false d.val v.val=0->(v.val ||| t.val)<4/\sF false d.val (v.val ||| t.val)=0:=by decide
 obtain⟨f,h2⟩:=e ⟨p.v,h.v⟩ ⟨p.d,h.d⟩ ⟨s,j⟩ h.sub;exact⟨by show(aRI p.b.data.toList d.data.toList (bKT s p.v) 16).toArray.size=16;rw [List.size_toArray,aTV];exact h.size,f,h.d,h2⟩
def bFC(c:Dc)(u:Us)(d:ByteArray)(ok:Bool):Us:=⟨u.file,u.page,bif ok then bDV u.p u.rd ⟨(bP2 d.data.toList ((c.fl.getD u.file bC).size-u.page*16) 16).toArray⟩ else u.p,u.ten,u.holds,0,u.wr⟩
def aRT(c:Dc)(m:Nat)(u:Us)(d:ByteArray)(ok:Bool):Dc×Int:=bif u.rd==0 then(c,4) else bif ok&&decide (d.size≠16) then(c,1) else(c.put m (bFC c u d ok),0)
theorem aYG {c:Dc} (h:Ok c) {m:Nat} {u:Us} (f:m<c.fr.length)(h2:c.fr.getD m none=some u)(d:ByteArray)(ok:Bool):gJ (bFC c u d ok).p:=by
 have e:=h.use m u f h2
 cases ok with
 |false=>exact e.pg
 |true=>exact aVZ e.pg e.rd _
theorem aYF {c:Dc} (h:Ok c) {m:Nat} {u:Us} (e:m<c.fr.length)(h2:c.fr.getD m none=some u)(d:ByteArray)(ok:Bool):Ok (aRT c m u d ok).1:=by
 have f:=h.use m u e h2;unfold aRT
 cases(u.rd==0) with
 |true=>exact h
 |false=>
  rw [zcf]
  cases(ok&&decide (d.size≠16)) with
  |true=>exact h
  |false=>exact h.put e h2 rfl (aYG h e h2 d ok) f.holds (by show 0<4;omega) f.wr
theorem uN.sep:∀ {l:List Zn} {f:Int},uN f l->∀(i j:Nat) (hi:i<l.length) (e:j<l.length),i<j->l[i].first+l[i].size<=l[j].first
 |z::r,f,h,0,j+1,_,e,_=>by have :=(uN.get h.2 j (by simpa using e)).2;simp only [List.getElem_cons_zero,zE];rw [h.1.first];exact this
 |z::r,f,h,i+1,j+1,hi,e,m=>by simp only [zE];exact uN.sep h.2 i j (by simpa using hi) (by simpa using e) (by omega)
theorem uN.one {l:List Zn} {f:Int} (h:uN f l) {i j:Nat} (hi:i<l.length)(m:j<l.length) {x:Int} (z:x∈l[i].free)(h2:x∈l[j].free):i=j:=by
 have a:=(h.get i hi).1.free.inn x z;have b:=(h.get j m).1.free.inn x h2;rcases Nat.lt_trichotomy i j with e |e |e
 ·have :=h.sep i j hi m e;omega
 ·exact e
 ·have :=h.sep j i m hi e;omega
theorem aIU {l:List Zn} (h:aX l=true) {p:Int} {u:Bool} (H:(cV l l p u).2.2=0):(∃z∈l,(cV l l p u).2.1∈z.free)/\∀z∈(cV l l p u).1,∀x∈z.free,x≠(cV l l p u).2.1/\∃w∈l,x∈w.free:=by
 have G:=(eT l).1 h;have F:=aS5 (base:=l) (p:=p) (u:=u) h;generalize cV l l p u=q at *
 cases F with
 |range _=>cases H
 |full _ _ _=>cases H
 |ok N O i D R C Q=>
  have hg:=(G.1.get i D).1
  have f:0<l[i].free.length:=by
   have :=hg.marks;unfold sS aFN at C;have C:=of_decide_eq_true C
   cases u with
   |true=>rw [zct] at C;omega
   |false=>rw [zcf] at C;omega
  have J:l[i].free.getD 0 0∈l[i].free:=by rw [<-fI _ 0 f];exact zC f
  dsimp only;refine⟨⟨_,zC D,J⟩,λz E x m=>?_⟩;obtain⟨j,K,rfl⟩:=zH E;have B:j<l.length:=by simpa using K
  by_cases e:i=j
  ·subst e;rw [List.getElem_set_self] at m;have m:x∈l[i].free.drop 1:=m;refine⟨?_,_,zC D,List.mem_of_mem_drop m⟩;rintro rfl;obtain⟨k,M,e⟩:=zH m;rw [List.length_drop] at M;rw [List.getElem_drop,fI _ _ (by omega)] at e;have :=kY hg.free.asc 0 (1+k) (by omega) (by omega);omega
  ·rw [List.getElem_set_ne e] at m;refine⟨?_,_,zC B,m⟩;rintro rfl;exact e (G.1.one D B J m)
theorem aZT {l:Ls} (J:dM l=true) {f:Int} (m:Bool)(G:cE f=true)(E:¬vK l f):dM (aB6 l f m).1=true/\(∀x,vK (aB6 l f m).1 x->x=f\/vK l x)/\(aB6 l f m).1=(bif m then⟨f::l.A,l.I,l.R⟩ else⟨l.A,f::l.I,l.R⟩):=by
 have z:=(bX l).1 J;have H:=(pX f).1 G;have B:f∉l.A:=λh=>E (.inl h);have C:f∉l.I:=λh=>E (.inr h)
 have K:lO l f=false:=by
  cases e:lO l f with
  |false=>rfl
  |true=> unfold lO at e;simp only [Bool.or_eq_true,decide_eq_true_eq] at e;exact absurd e E
 unfold aB6 aV2;rw [J,G,K,Bool.not_true,zcf,zcf,zcf]
 cases m with
 |true=>
  rw [zct];refine⟨(bX _).2 ⟨?_,λx j=>?_,z.asc,λx j=>?_⟩,λx j=>?_,rfl⟩
  ·show((f::l.A)++l.I).Nodup;rw [zD,List.nodup_cons,zF];exact⟨λh=>h.elim B C,z.nodup⟩
  ·have j:x∈(f::l.A)++l.I:=j;rw [zD,zA] at j;rcases j with rfl |j
   ·exact H
   ·exact z.known x j
  ·show x∈(f::l.A)++l.I;rw [zD,zA];exact .inr (z.sub x j)
  ·unfold vK at j;dsimp only at j;rw [zA] at j;rcases j with (rfl |h)|h
   ·exact .inl rfl
   ·exact .inr (.inl h)
   ·exact .inr (.inr h)
 |false=>
  rw [zcf];refine⟨(bX _).2 ⟨?_,λx j=>?_,z.asc,λx j=>?_⟩,λx j=>?_,rfl⟩
  ·show(l.A++(f::l.I)).Nodup;have :=List.nodup_append.1 z.nodup;refine List.nodup_append.2 ⟨this.1,List.nodup_cons.2 ⟨C,this.2.1⟩,λa F b D=>?_⟩;rcases List.mem_cons.1 D with rfl |D
   ·rintro rfl;exact B F
   ·exact this.2.2 a F b D
  ·have j:x∈l.A++(f::l.I):=j;rw [zF,zA] at j;rcases j with j |rfl |j
   ·exact z.known x (List.mem_append_left _ j)
   ·exact H
   ·exact z.known x (List.mem_append_right _ j)
  ·show x∈l.A++(f::l.I);rw [zF,zA];rcases List.mem_append.1 (z.sub x j) with h |h
   ·exact .inl h
   ·exact .inr (.inr h)
  ·unfold vK at j;dsimp only at j;rw [zA] at j;rcases j with h |rfl |h
   ·exact .inr (.inl h)
   ·exact .inl rfl
   ·exact .inr (.inr h)
theorem aOC {g:List Gr} (h:nR g=true) {t:Nat} (f:t<g.length):nR (fG g t).1=true/\(fG g t).1.length=g.length:=by
 have hg:=aF6 h f;unfold fG
 by_cases e:(g.getD t g0).lim- (g.getD t g0).chg<1
 ·rw [zdt e,zct];exact⟨h,rfl⟩
 ·rw [zdf e,zcf];exact⟨aQ5 h (by omega) (by omega),sG _ _ _⟩
def aR0(b p:Nat):Pg:=bif uX b p then⟨z16,3,0⟩ else⟨z16,0,0⟩
theorem aWV(b p:Nat):gJ (aR0 b p):=by
 unfold aR0
 cases uX b p with
 |true=>exact⟨rfl,by decide,by decide,by decide⟩
 |false=>exact⟨rfl,by decide,by decide,by decide⟩
def aH9(c:Dc)(f p t:Nat):Us:=⟨f,p,aR0 (c.fl.getD f bC).blocks p,t,0,0,0⟩
def aTG(c:Dc)(f p t:Nat):Bool:=aZS (c.ck.getD t 0) ((c.fl.getD f bC).E p).1 ((c.ls.getD t l0).A.length:Int)
def Dc.ins(c:Dc)(f p t:Nat)(z:List Zn)(g:List Gr)(m:Nat):Dc:= ⟨c.fl.set f (gU (c.fl.getD f bC) (dX (c.fl.getD f bC).E p (((m+1:Nat):Int),0))),c.fr.set m (some (aH9 c f p t)),z,g,c.ls.set t (aB6 (c.ls.getD t l0) ((m+1:Nat):Int) (aTG c f p t)).1,c.ck,c.pt⟩
theorem Ok.ins {c:Dc} (h:Ok c) {f p t m:Nat} {z:List Zn} {g:List Gr} (Y:f<c.fl.length)(hp:p<8)(ht:t<c.gr.length)(hE:((c.fl.getD f bC).E p).1<=0)(hm:m<c.fr.length)(hn:c.fr.getD m none=none)
 (hz:aX z=true) (ac:∀w∈z,∀x∈w.free,x≠((m+1:Nat):Int)/\∃v∈c.zo,x∈v.free) (hg:nR g=true) (F:g.length=c.gr.length):Ok (c.ins f p t z g m):=by
 have Z:=h.file f Y;have T:cE ((m+1:Nat):Int)=true:=(pX _).2 (by have :=h.nr;omega);have H:t<c.ls.length:=by rw [h.nl];exact ht
 have R:∀s,s<c.ls.length->¬vK (c.ls.getD s l0) ((m+1:Nat):Int):=λs N D=>by
  obtain⟨n,u,k1,k2,k3,k4⟩:=h.mem s _ N D;have :n=m:=by omega
  subst this;rw [hn] at k3;cases k3
 obtain⟨a1,a2,a3⟩:=aZT (h.ls t H) (aTG c f p t) T (R t H)
 have M:∀e q,(((c.ins f p t z g m).fl.getD e bC).E q).1=if e=f/\q=p then((m+1:Nat):Int) else((c.fl.getD e bC).E q).1:=λe q=>by
  show(((c.fl.set f (gU (c.fl.getD f bC) (dX (c.fl.getD f bC).E p (((m+1:Nat):Int),0)))).getD e bC).E q).1=_
  by_cases e1:e=f
  ·subst e1;rw [aH _ _ _ _ Y,vX]
   by_cases K:q=p
   ·subst K;rw [fN,if_pos ⟨rfl,rfl⟩]
   ·rw [eL K,if_neg (λh=>K h.2)]
  ·rw [getD_set_ne _ _ _ e1,if_neg (λh=>e1 h.1)]
 have C:∀n,(c.ins f p t z g m).fr.getD n none=if n=m then some (aH9 c f p t) else c.fr.getD n none:=λn=>by
  show(c.fr.set m (some (aH9 c f p t))).getD n none=_
  by_cases e:n=m
  ·subst e;rw [aH _ _ _ _ hm,if_pos rfl]
  ·rw [getD_set_ne _ _ _ e,if_neg e]
 have j:(c.ins f p t z g m).fr.length=c.fr.length:=zG ..;have B:(c.ins f p t z g m).fl.length=c.fl.length:=zG ..;have G:(c.ins f p t z g m).ls.length=c.ls.length:=zG ..;refine⟨by rw [B];exact h.nf,by rw [j];exact h.nr,by show g.length<=4;rw [F];exact h.ng,by rw [G];show c.ls.length=g.length;rw [F];exact h.nl,by show c.ck.length=g.length;rw [F];exact h.nk,λe he=>?_,λn u aa Q=>?_,λe q he hq=>?_,hz,λw hw x D=>?_,hg,λs N=>?_,λs x N D=>?_,h.ck,h.pt⟩
 ·show OkF ((c.fl.set f (gU (c.fl.getD f bC) (dX (c.fl.getD f bC).E p (((m+1:Nat):Int),0)))).getD e bC)
  by_cases e1:e=f
  ·subst e1;rw [aH _ _ _ _ Y];refine Z.gU (Z.E.set (Nat.zero_lt_succ _) (λ_=>rfl)) (Z.sup.set (by omega) _) (λq=>?_)
   by_cases K:q=p
   ·subst K;rw [fN];show(-1000001:Int)<=((m+1:Nat):Int);omega
   ·rw [eL K];exact Z.lo q
  ·rw [getD_set_ne _ _ _ e1];exact h.file e (by rw [<-B];exact he)
 ·rw [C] at Q
  by_cases e:n=m
  ·subst e;rw [if_pos rfl] at Q;injection Q with Q
   subst Q;refine⟨by rw [B];exact Y,hp,aWV _ _,by show t<g.length;rw [F];exact ht,Nat.zero_le _,by show 0<4;omega,by show 0<4;omega,?_⟩;rw [M,if_pos ⟨rfl,rfl⟩]
  ·rw [if_neg e] at Q;have J:=h.use n u (by rw [<-j];exact aa) Q;refine⟨by rw [B];exact J.file,J.page,J.pg,by show u.ten<g.length;rw [F];exact J.ten,J.holds,J.rd,J.wr,?_⟩;rw [M,if_neg]
   ·exact J.val
   ·rintro ⟨e1,K⟩;have :=J.val;rw [e1,K] at this;omega
 ·rw [M] at hq⊢
  by_cases e1:e=f/\q=p
  ·rw [if_pos e1];obtain⟨rfl,rfl⟩:=e1;exact⟨m,aH9 c e q t,by rw [j];exact hm,rfl,by rw [C,if_pos rfl],rfl,rfl⟩
  ·rw [if_neg e1] at hq⊢;obtain⟨n,u,k1,k2,k3,k4,k5⟩:=h.ent e q (by rw [<-B];exact he) hq;refine⟨n,u,by rw [j];exact k1,k2,?_,k4,k5⟩;rw [C,if_neg]
   ·exact k3
   ·rintro rfl;rw [hn] at k3;cases k3
 ·obtain⟨x1,v,hv,ab⟩:=ac w hw x D;obtain⟨n,k1,k2,k3⟩:=h.free v hv x ab;refine⟨n,by rw [j];exact k1,k2,?_⟩;rw [C,if_neg]
  ·exact k3
  ·rintro rfl;exact x1 k2
 ·have O:s<c.ls.length:=by rw [<-G];exact N
  clear N;show dM ((c.ls.set t (aB6 (c.ls.getD t l0) ((m+1:Nat):Int) (aTG c f p t)).1).getD s l0)=true
  by_cases e:s=t
  ·rw [e,aH _ _ _ _ H];exact a1
  ·rw [getD_set_ne _ _ _ e];exact h.ls s O
 ·have O:s<c.ls.length:=by rw [<-G];exact N
  clear N;have D:vK ((c.ls.set t (aB6 (c.ls.getD t l0) ((m+1:Nat):Int) (aTG c f p t)).1).getD s l0) x:=D
  have W:vK (c.ls.getD s l0) x->∃n u,n< (c.ins f p t z g m).fr.length/\x=((n+1:Nat):Int)/\(c.ins f p t z g m).fr.getD n none=some u/\u.ten=s:=λD=>by
   obtain⟨n,u,k1,k2,k3,k4⟩:=h.mem s x O D;refine⟨n,u,by rw [j];exact k1,k2,?_,k4⟩;rw [C,if_neg]
   ·exact k3
   ·rintro rfl;rw [hn] at k3;cases k3
  by_cases e:s=t
  ·cases e
   rw [aH _ _ _ _ H] at D;rcases a2 x D with rfl |D
   ·exact⟨m,aH9 c f p t,by rw [j];exact hm,rfl,by rw [C,if_pos rfl],rfl⟩
   ·exact W D
  ·rw [getD_set_ne _ _ _ e] at D;exact W D
def fR(c:Dc)(f p t:Nat)(pf:Int)(ur:Bool):Dc×Int×Int:=
 bif decide (0< ((c.fl.getD f bC).E p).1) then(c,0,5) else
 bif (fG c.gr t).2==0 then
  (bif (cV c.zo c.zo pf ur).2.2==0 then(c.ins f p t (cV c.zo c.zo pf ur).1 (fG c.gr t).1 ((cV c.zo c.zo pf ur).2.1-1).toNat,(cV c.zo c.zo pf ur).2.1,0) else(c,0,(cV c.zo c.zo pf ur).2.2))
 else(c,0,(fG c.gr t).2)
theorem take_at {c:Dc} (h:Ok c) {e:Int} {f:Bool} (j:(cV c.zo c.zo e f).2.2=0):∃m,m<c.fr.length/\(cV c.zo c.zo e f).2.1=((m+1:Nat):Int)/\c.fr.getD m none=none:=by obtain⟨⟨z,C,B⟩,-⟩:=aIU h.zone j;exact h.free z C _ B
theorem bB0 {c:Dc} (h:Ok c) {f p t:Nat} (C:Int)(D:Bool)(F:f<c.fl.length)(G:p<8)(z:t<c.gr.length):Ok (fR c f p t C D).1:=by
 unfold fR
 by_cases e1:0< ((c.fl.getD f bC).E p).1
 ·rw [zdt e1];exact h
 rw [zdf e1,zcf]
 cases K:((fG c.gr t).2==0) with
 |false=>exact h
 |true=>
  rw [zct]
  cases e:((cV c.zo c.zo C D).2.2==0) with
  |false=>exact h
  |true=> rw [zct];have e:=eq_of_beq e;obtain⟨m,H,B,J⟩:=take_at h e;have j:=(aIU h.zone e).2;have hg:=aOC h.gr z;dsimp only;rw [B,show(((m+1:Nat):Int)-1).toNat=m by omega];rw [B] at j;exact h.ins F G z (by omega) H J (aD4 (iS.refl _) h.zone) j hg.1 hg.2
end Go.Proofs.YtmhapcbjjpadnaaGreat
