/- Caches. -/
import Derived.Test.YtmhapcbjjpadnaaGreatGFg
import Derived.Test.YtmhapcbjjpadnaaGreatGGg
import Derived.Test.YtmhapcbjjpadnaaGreatG2g
import Derived.Test.YtmhapcbjjpadnaaGreatG6g
set_option linter.all false
set_option maxHeartbeats 8000000
set_option maxRecDepth 40000
open List renaming getElem?_eq_none→zA,mem_cons→zC,getElem_mem→zD,length_set→zE,ext_getElem?→zF,cons_append→zG,getElem_cons_succ→zH,mem_append→zI,getElem_of_mem→zJ,size_toArray→zK
namespace Go.Proofs.YtmhapcbjjpadnaaGreat
open Go Go.Sk Go.RowKit
def aAR(b:List UInt8)(k i:Nat):List UInt8:=(List.range b.length).map λj=>bif decide (j<i)&&decide (k<=j) then 0 else b.getD j 0
@[simp] theorem lX (b:List UInt8) (k i:Nat):(aAR b k i).length=b.length:=by simp [aAR]
theorem tH(b:List UInt8)(k i j:Nat)(h:j<b.length):(aAR b k i)[j]? =some (bif decide (j<i)&&decide (k<=j) then 0 else b.getD j 0):=by simp [aAR,h]
theorem aUJ(b:List UInt8)(k:Nat):aAR b k 0=b:=by
 apply zF;intro j
 by_cases h:j<b.length
 ·rw [tH _ _ _ _ h];simp [h]
 ·rw [zA (by rw [lX];omega),zA (by omega)]
theorem aX4(b:List UInt8)(k i:Nat)(h:k<=i):aAR b k (i+1)=(aAR b k i).set i 0:=by
 apply zF;intro j
 by_cases f:j<b.length
 ·rw [tH _ _ _ _ f,List.getElem?_set]
  by_cases e:i=j
  ·subst e;rw [if_pos rfl,if_pos (by rw [lX];exact f),zdt h,zdt (by omega)];rfl
  ·rw [if_neg e,tH _ _ _ _ f,show decide (j<i+1)=decide (j<i) by rw [decide_eq_decide];omega]
 ·rw [zA (by rw [lX];omega),zA (by rw [zE,lX];omega)]
theorem aUI(b:List UInt8)(k i:Nat)(h:¬k<=i):aAR b k (i+1)=aAR b k i:=by
 apply zF;intro j
 by_cases f:j<b.length
 ·rw [tH _ _ _ _ f,tH _ _ _ _ f]
  by_cases e:i=j
  ·subst e;rw [zdf h,Bool.and_false,Bool.and_false]
  ·rw [show decide (j<i+1)=decide (j<i) by rw [decide_eq_decide];omega]
 ·rw [zA (by rw [lX];omega),zA (by rw [lX];omega)]
theorem aXO {p:Pg} (h:fJ p) {s:Nat} (f:s<4)(d:ByteArray):fJ (aN7 p s d):=by
 have e:∀v d t:Fin 4,mK false d.val v.val=0->(v.val ||| t.val)<4/\mK false d.val (v.val ||| t.val)=0:=by decide
 obtain⟨h1,h2⟩:=e ⟨p.v,h.v⟩ ⟨p.d,h.d⟩ ⟨s,f⟩ h.sub;exact⟨by show(sP p.b.data.toList d.data.toList (aUY s p.v) 16).toArray.size=16;rw [zK,kF];exact h.size,h1,h.d,h2⟩
def aJL(c:Dc)(u:Us)(d:ByteArray)(ok:Bool):Us:=⟨u.file,u.page,bif ok then aN7 u.p u.rd ⟨(aAR d.data.toList ((c.fl.getD u.file aX).size-u.page*16) 16).toArray⟩ else u.p,u.ten,u.holds,0,u.wr⟩
def aBM(c:Dc)(m:Nat)(u:Us)(d:ByteArray)(ok:Bool):Dc×Int:=bif u.rd==0 then(c,4) else bif ok&&decide (d.size≠16) then(c,1) else(c.put m (aJL c u d ok),0)
theorem aOM {c:Dc} (h:Ok c) {m:Nat} {u:Us} (h1:m<c.fr.length)(h2:c.fr.getD m none=some u)(d:ByteArray)(ok:Bool):fJ (aJL c u d ok).p:=by
 have e:=h.use m u h1 h2
 cases ok with
 |false=>exact e.pg
 |true=>exact aXO e.pg e.rd _
theorem bAC {c:Dc} (h:Ok c) {m:Nat} {u:Us} (h1:m<c.fr.length)(h2:c.fr.getD m none=some u)(d:ByteArray)(ok:Bool):Ok (aBM c m u d ok).1:=by
 have e:=h.use m u h1 h2;unfold aBM
 cases(u.rd==0) with
 |true=>exact h
 |false=>
  rw [zcf]
  cases(ok&&decide (d.size≠16)) with
  |true=>exact h
  |false=>exact h.put h1 h2 rfl (aOM h h1 h2 d ok) e.holds (by show 0<4;omega) e.wr
theorem bPN(c:Dc)(n:Int)(d:ByteArray)(ok:Bool)(hc:SmD c)(f:fZ c n=false):aM Tryz.prog 50 [] [.agg c.c,.int .i64 n,.str d,.bool ok] (.tup [.agg c.c,.int .i64 2]) []:=by have e:=aCX c n hc;rw [f] at e;refine aG (ob0:= []) [] Tryz.func50 rfl rfl rfl rfl ?_;exact Wz
theorem bRS(c:Dc)(h:Ok c)(m:Nat)(u:Us)(h1:m<c.fr.length)(h2:c.fr.getD m none=some u)(d:ByteArray)(ok:Bool):
 aM Tryz.prog 50 [] [.agg c.c,.int .i64 ((m+1:Nat):Int),.str d,.bool ok] (.tup [.agg (aBM c m u d ok).1.c,.int .i64 (aBM c m u d ok).2]) []:=by
 have T:=h.use70 h1 h2;have B:=h.use m u h1 h2;have N:=qW h1 h2;have O:=h.nr;have F:=B.file;have H:=vS F;have Y:=(h.file _ F).size;obtain⟨k0,k1,k2,k3,G,-⟩:=Df.cells (h.file _ F).E;rw [G] at H;have Q:=B.page;have R:=B.rd;have M:=h.p155 (u':=aJL c u d ok) h1 h2 rfl (aOM h h1 h2 d ok) (by show 0<4;omega) B.wr;have j:=bNM u.p B.pg u.rd B.rd ⟨(aAR d.data.toList ((c.fl.getD u.file aX).size-u.page*16) 16).toArray⟩;generalize f:aBM c m u d ok=q;unfold aBM at f
 by_cases J:u.rd=0
 ·rw [zbe.2 J,zct] at f;subst f;refine aG (ob0:= []) [] Tryz.func50 rfl rfl rfl rfl ?_;exact Wz
 rw [zbn.2 J,zcf] at f
 cases ok with
 |false=> have f:(c.put m (aJL c u d false),(0:Int))=q:=f;subst f;unfold aJL at *;dsimp only [zcf] at *;generalize c.put m _=e at *;refine aG (ob0:= []) [] Tryz.func50 rfl rfl rfl rfl ?_;exact Wz
 |true=>
  rw [Bool.true_and] at f
  by_cases C:d.size=16
  ·rw [zdf (λe=>e C),zcf] at f;have K:d.data.toList.length=16:=C;have j:=j (by show(aAR _ _ _).toArray.size=16;rw [zK,lX];exact K);subst f;unfold aJL at *;dsimp only [zct] at *;generalize aN7 u.p u.rd _=P at *;generalize c.put m _=e at *;generalize(c.fl.getD u.file aX).size=z at *;refine aG (ob0:= []) [] Tryz.func50 rfl rfl rfl rfl ?_;refine Wx ?_
   refine Lp (λi:Nat=>i<=16) (λi=> [(12,.int .i64 (i:Int))]) (λi=> [(3,.bb (aAR d.data.toList (z-u.page*16) i))]) (λi=>16-i) 0 (Nat.zero_le _) ?_ ?_
   ·rw [aUJ];exact Vr [_,_,_,_]
   intro i W;have D:=lX d.data.toList (z-u.page*16) i;rw [K] at D;refine Wx ?_;refine iF (λb=>?_) (λb=>?_)
   ·refine Wx ?_;refine iF (λb3=>?_) (λb3=>?_)
    ·refine Wx ?_;refine Le (i+1) (hv:=?_);simp only [aX4 _ _ i (show z-u.page*16<=i by omega)];exact Vr [_,_,_,_]
    ·refine Wx ?_;refine Le (i+1) (hv:=?_);simp only [aUI _ _ i (show ¬z-u.page*16<=i by omega)];exact Vr [_,_,_,_]
   obtain rfl:i=16:=by omega
   rw [<-bHH (xs:=aAR d.data.toList (z-u.page*16) 16) (n:=d.size) (by omega)] at j;exact Wz
  ·rw [zdt C,zct] at f;subst f;refine aG (ob0:= []) [] Tryz.func50 rfl rfl rfl rfl ?_;exact Wz
theorem vK.sep:∀ {l:List Zn} {f:Int},vK f l->∀(i j:Nat) (hi:i<l.length) (e:j<l.length),i<j->l[i].first+l[i].size<=l[j].first
 |z::r,f,h,0,j+1,_,e,_=>by have :=(vK.get h.2 j (by simpa using e)).2;simp only [List.getElem_cons_zero,zH];rw [h.1.first];exact this
 |z::r,f,h,i+1,j+1,hi,e,m=>by simp only [zH];exact vK.sep h.2 i j (by simpa using hi) (by simpa using e) (by omega)
theorem vK.one {l:List Zn} {f:Int} (h:vK f l) {i j:Nat} (hi:i<l.length)(m:j<l.length) {x:Int} (h1:x∈l[i].free)(h2:x∈l[j].free):i=j:=by
 have a:=(h.get i hi).1.free.inn x h1;have b:=(h.get j m).1.free.inn x h2;rcases Nat.lt_trichotomy i j with e |e |e
 ·have :=h.sep i j hi m e;omega
 ·exact e
 ·have :=h.sep j i m hi e;omega
theorem aK1 {l:List Zn} (h:aZ l=true) {p:Int} {u:Bool} (G:(cS l l p u).2.2=0):(∃z∈l,(cS l l p u).2.1∈z.free)/\∀z∈(cS l l p u).1,∀x∈z.free,x≠(cS l l p u).2.1/\∃w∈l,x∈w.free:=by
 have hc:=(eU l).1 h;have F:=aTN (base:=l) (p:=p) (u:=u) h;generalize cS l l p u=q at *
 cases F with
 |range _=>cases G
 |full _ _ _=>cases G
 |ok M h1 i D O C N=>
  have hg:=(hc.1.get i D).1
  have f:0<l[i].free.length:=by
   have :=hg.marks;unfold tT aGQ at C;have C:=of_decide_eq_true C
   cases u with
   |true=>rw [zct] at C;omega
   |false=>rw [zcf] at C;omega
  have H:l[i].free.getD 0 0∈l[i].free:=by rw [<-fM _ 0 f];exact zD f
  dsimp only;refine⟨⟨_,zD D,H⟩,λz E x m=>?_⟩;obtain⟨j,J,rfl⟩:=zJ E;have B:j<l.length:=by simpa using J
  by_cases e:i=j
  ·subst e;rw [List.getElem_set_self] at m;have m:x∈l[i].free.drop 1:=m;refine⟨?_,_,zD D,List.mem_of_mem_drop m⟩;rintro rfl;obtain⟨k,K,e⟩:=zJ m;rw [List.length_drop] at K;rw [List.getElem_drop,fM _ _ (by omega)] at e;have :=lM hg.free.asc 0 (1+k) (by omega) (by omega);omega
  ·rw [List.getElem_set_ne e] at m;refine⟨?_,_,zD B,m⟩;rintro rfl;exact e (hc.1.one D B H m)
theorem bBT {l:Ls} (J:eB l=true) {f:Int} (m:Bool)(G:cA f=true)(E:¬rS l f):eB (sU l f m).1=true/\(∀x,rS (sU l f m).1 x->x=f\/rS l x)/\(sU l f m).1=(bif m then⟨f::l.A,l.I,l.R⟩ else⟨l.A,f::l.I,l.R⟩):=by
 have z:=(bX l).1 J;have H:=(mX f).1 G;have B:f∉l.A:=λh=>E (.inl h);have C:f∉l.I:=λh=>E (.inr h)
 have K:lH l f=false:=by
  cases e:lH l f with
  |false=>rfl
  |true=> unfold lH at e;simp only [Bool.or_eq_true,decide_eq_true_eq] at e;exact absurd e E
 unfold sU aPF;rw [J,G,K,Bool.not_true,zcf,zcf,zcf]
 cases m with
 |true=>
  rw [zct];refine⟨(bX _).2 ⟨?_,λx j=>?_,z.asc,λx j=>?_⟩,λx j=>?_,rfl⟩
  ·show((f::l.A)++l.I).Nodup;rw [zG,List.nodup_cons,zI];exact⟨λh=>h.elim B C,z.nodup⟩
  ·have j:x∈(f::l.A)++l.I:=j;rw [zG,zC] at j;rcases j with rfl |j
   ·exact H
   ·exact z.known x j
  ·show x∈(f::l.A)++l.I;rw [zG,zC];exact .inr (z.sub x j)
  ·unfold rS at j;dsimp only at j;rw [zC] at j;rcases j with (rfl |h)|h
   ·exact .inl rfl
   ·exact .inr (.inl h)
   ·exact .inr (.inr h)
 |false=>
  rw [zcf];refine⟨(bX _).2 ⟨?_,λx j=>?_,z.asc,λx j=>?_⟩,λx j=>?_,rfl⟩
  ·show(l.A++(f::l.I)).Nodup;have :=List.nodup_append.1 z.nodup;refine List.nodup_append.2 ⟨this.1,List.nodup_cons.2 ⟨C,this.2.1⟩,λa F b D=>?_⟩;rcases List.mem_cons.1 D with rfl |D
   ·rintro rfl;exact B F
   ·exact this.2.2 a F b D
  ·have j:x∈l.A++(f::l.I):=j;rw [zI,zC] at j;rcases j with j |rfl |j
   ·exact z.known x (List.mem_append_left _ j)
   ·exact H
   ·exact z.known x (List.mem_append_right _ j)
  ·show x∈l.A++(f::l.I);rw [zI,zC];rcases List.mem_append.1 (z.sub x j) with h |h
   ·exact .inl h
   ·exact .inr (.inr h)
  ·unfold rS at j;dsimp only at j;rw [zC] at j;rcases j with h |rfl |h
   ·exact .inr (.inl h)
   ·exact .inl rfl
   ·exact .inr (.inr h)
theorem aPN {g:List Gr} (h:mV g=true) {t:Nat} (f:t<g.length):mV (eM g t).1=true/\(eM g t).1.length=g.length:=by
 have hg:=aG6 h f;unfold eM
 by_cases e:(g.getD t g0).lim- (g.getD t g0).chg<1
 ·rw [zdt e,zct];exact⟨h,rfl⟩
 ·rw [zdf e,zcf];exact⟨aRM h (by omega) (by omega),tF _ _ _⟩
def aSF(b p:Nat):Pg:=bif sM b p then⟨z16,3,0⟩ else⟨z16,0,0⟩
theorem aYM(b p:Nat):fJ (aSF b p):=by
 unfold aSF
 cases sM b p with
 |true=>exact⟨rfl,by decide,by decide,by decide⟩
 |false=>exact⟨rfl,by decide,by decide,by decide⟩
def aCJ(c:Dc)(f p t:Nat):Us:=⟨f,p,aSF (c.fl.getD f aX).blocks p,t,0,0,0⟩
def aQ6(c:Dc)(f p t:Nat):Bool:=bBS (c.ck.getD t 0) ((c.fl.getD f aX).E p).1 ((c.ls.getD t l0).A.length:Int)
def Dc.ins(c:Dc)(f p t:Nat)(z:List Zn)(g:List Gr)(m:Nat):Dc:= ⟨c.fl.set f (hY (c.fl.getD f aX) (dZ (c.fl.getD f aX).E p (((m+1:Nat):Int),0))),c.fr.set m (some (aCJ c f p t)),z,g,c.ls.set t (sU (c.ls.getD t l0) ((m+1:Nat):Int) (aQ6 c f p t)).1,c.ck,c.pt⟩
theorem Ok.ins {c:Dc} (h:Ok c) {f p t m:Nat} {z:List Zn} {g:List Gr} (Y:f<c.fl.length)(hp:p<8)(ht:t<c.gr.length)(hE:((c.fl.getD f aX).E p).1<=0)(hm:m<c.fr.length)(hn:c.fr.getD m none=none)
 (hz:aZ z=true) (ac:∀w∈z,∀x∈w.free,x≠((m+1:Nat):Int)/\∃v∈c.zo,x∈v.free) (hg:mV g=true) (F:g.length=c.gr.length):Ok (c.ins f p t z g m):=by
 have Z:=h.file f Y;have T:cA ((m+1:Nat):Int)=true:=(mX _).2 (by have :=h.nr;omega);have H:t<c.ls.length:=by rw [h.nl];exact ht
 have R:∀s,s<c.ls.length->¬rS (c.ls.getD s l0) ((m+1:Nat):Int):=λs N D=>by
  obtain⟨n,u,k1,k2,k3,k4⟩:=h.mem s _ N D;have :n=m:=by omega
  subst this;rw [hn] at k3;cases k3
 obtain⟨a1,a2,a3⟩:=bBT (h.ls t H) (aQ6 c f p t) T (R t H)
 have M:∀e q,(((c.ins f p t z g m).fl.getD e aX).E q).1=if e=f/\q=p then((m+1:Nat):Int) else((c.fl.getD e aX).E q).1:=λe q=>by
  show(((c.fl.set f (hY (c.fl.getD f aX) (dZ (c.fl.getD f aX).E p (((m+1:Nat):Int),0)))).getD e aX).E q).1=_
  by_cases e1:e=f
  ·subst e1;rw [aE _ _ _ _ Y,aAK]
   by_cases K:q=p
   ·subst K;rw [fR,if_pos ⟨rfl,rfl⟩]
   ·rw [eP K,if_neg (λh=>K h.2)]
  ·rw [getD_set_ne _ _ _ e1,if_neg (λh=>e1 h.1)]
 have C:∀n,(c.ins f p t z g m).fr.getD n none=if n=m then some (aCJ c f p t) else c.fr.getD n none:=λn=>by
  show(c.fr.set m (some (aCJ c f p t))).getD n none=_
  by_cases e:n=m
  ·subst e;rw [aE _ _ _ _ hm,if_pos rfl]
  ·rw [getD_set_ne _ _ _ e,if_neg e]
 have j:(c.ins f p t z g m).fr.length=c.fr.length:=zE ..;have B:(c.ins f p t z g m).fl.length=c.fl.length:=zE ..;have G:(c.ins f p t z g m).ls.length=c.ls.length:=zE ..;refine⟨by rw [B];exact h.nf,by rw [j];exact h.nr,by show g.length<=4;rw [F];exact h.ng,by rw [G];show c.ls.length=g.length;rw [F];exact h.nl,by show c.ck.length=g.length;rw [F];exact h.nk,λe he=>?_,λn u aa Q=>?_,λe q he hq=>?_,hz,λw hw x D=>?_,hg,λs N=>?_,λs x N D=>?_,h.ck,h.pt⟩
 ·show OkF ((c.fl.set f (hY (c.fl.getD f aX) (dZ (c.fl.getD f aX).E p (((m+1:Nat):Int),0)))).getD e aX)
  by_cases e1:e=f
  ·subst e1;rw [aE _ _ _ _ Y];refine Z.hY (Z.E.set (Nat.zero_lt_succ _) (λ_=>rfl)) (Z.sup.set (by omega) _) (λq=>?_)
   by_cases K:q=p
   ·subst K;rw [fR];show(-1000001:Int)<=((m+1:Nat):Int);omega
   ·rw [eP K];exact Z.lo q
  ·rw [getD_set_ne _ _ _ e1];exact h.file e (by rw [<-B];exact he)
 ·rw [C] at Q
  by_cases e:n=m
  ·subst e;rw [if_pos rfl] at Q;injection Q with Q
   subst Q;refine⟨by rw [B];exact Y,hp,aYM _ _,by show t<g.length;rw [F];exact ht,Nat.zero_le _,by show 0<4;omega,by show 0<4;omega,?_⟩;rw [M,if_pos ⟨rfl,rfl⟩]
  ·rw [if_neg e] at Q;have J:=h.use n u (by rw [<-j];exact aa) Q;refine⟨by rw [B];exact J.file,J.page,J.pg,by show u.ten<g.length;rw [F];exact J.ten,J.holds,J.rd,J.wr,?_⟩;rw [M,if_neg]
   ·exact J.val
   ·rintro ⟨e1,K⟩;have :=J.val;rw [e1,K] at this;omega
 ·rw [M] at hq⊢
  by_cases e1:e=f/\q=p
  ·rw [if_pos e1];obtain⟨rfl,rfl⟩:=e1;exact⟨m,aCJ c e q t,by rw [j];exact hm,rfl,by rw [C,if_pos rfl],rfl,rfl⟩
  ·rw [if_neg e1] at hq⊢;obtain⟨n,u,k1,k2,k3,k4,k5⟩:=h.ent e q (by rw [<-B];exact he) hq;refine⟨n,u,by rw [j];exact k1,k2,?_,k4,k5⟩;rw [C,if_neg]
   ·exact k3
   ·rintro rfl;rw [hn] at k3;cases k3
 ·obtain⟨x1,v,hv,ab⟩:=ac w hw x D;obtain⟨n,k1,k2,k3⟩:=h.free v hv x ab;refine⟨n,by rw [j];exact k1,k2,?_⟩;rw [C,if_neg]
  ·exact k3
  ·rintro rfl;exact x1 k2
 ·have O:s<c.ls.length:=by rw [<-G];exact N
  clear N;show eB ((c.ls.set t (sU (c.ls.getD t l0) ((m+1:Nat):Int) (aQ6 c f p t)).1).getD s l0)=true
  by_cases e:s=t
  ·rw [e,aE _ _ _ _ H];exact a1
  ·rw [getD_set_ne _ _ _ e];exact h.ls s O
 ·have O:s<c.ls.length:=by rw [<-G];exact N
  clear N;have D:rS ((c.ls.set t (sU (c.ls.getD t l0) ((m+1:Nat):Int) (aQ6 c f p t)).1).getD s l0) x:=D
  have W:rS (c.ls.getD s l0) x->∃n u,n< (c.ins f p t z g m).fr.length/\x=((n+1:Nat):Int)/\(c.ins f p t z g m).fr.getD n none=some u/\u.ten=s:=λD=>by
   obtain⟨n,u,k1,k2,k3,k4⟩:=h.mem s x O D;refine⟨n,u,by rw [j];exact k1,k2,?_,k4⟩;rw [C,if_neg]
   ·exact k3
   ·rintro rfl;rw [hn] at k3;cases k3
  by_cases e:s=t
  ·cases e
   rw [aE _ _ _ _ H] at D;rcases a2 x D with rfl |D
   ·exact⟨m,aCJ c f p t,by rw [j];exact hm,rfl,by rw [C,if_pos rfl],rfl⟩
   ·exact W D
  ·rw [getD_set_ne _ _ _ e] at D;exact W D
def fC(c:Dc)(f p t:Nat)(pf:Int)(ur:Bool):Dc×Int×Int:=
 bif decide (0< ((c.fl.getD f aX).E p).1) then(c,0,5) else
 bif (eM c.gr t).2==0 then
  (bif (cS c.zo c.zo pf ur).2.2==0 then(c.ins f p t (cS c.zo c.zo pf ur).1 (eM c.gr t).1 ((cS c.zo c.zo pf ur).2.1-1).toNat,(cS c.zo c.zo pf ur).2.1,0) else(c,0,(cS c.zo c.zo pf ur).2.2))
 else(c,0,(eM c.gr t).2)
theorem take_at {c:Dc} (h:Ok c) {e:Int} {f:Bool} (j:(cS c.zo c.zo e f).2.2=0):∃m,m<c.fr.length/\(cS c.zo c.zo e f).2.1=((m+1:Nat):Int)/\c.fr.getD m none=none:=by obtain⟨⟨z,C,B⟩,-⟩:=aK1 h.zone j;exact h.free z C _ B
theorem bD1 {c:Dc} (h:Ok c) {f p t:Nat} (C:Int)(D:Bool)(F:f<c.fl.length)(G:p<8)(z:t<c.gr.length):Ok (fC c f p t C D).1:=by
 unfold fC
 by_cases e1:0< ((c.fl.getD f aX).E p).1
 ·rw [zdt e1];exact h
 rw [zdf e1,zcf]
 cases K:((eM c.gr t).2==0) with
 |false=>exact h
 |true=>
  rw [zct]
  cases e:((cS c.zo c.zo C D).2.2==0) with
  |false=>exact h
  |true=> rw [zct];have e:=eq_of_beq e;obtain⟨m,H,B,J⟩:=take_at h e;have j:=(aK1 h.zone e).2;have hg:=aPN h.gr z;dsimp only;rw [B,show(((m+1:Nat):Int)-1).toNat=m by omega];rw [B] at j;exact h.ins F G z (by omega) H J (aE7 (iW.refl _) h.zone) j hg.1 hg.2
end Go.Proofs.YtmhapcbjjpadnaaGreat
