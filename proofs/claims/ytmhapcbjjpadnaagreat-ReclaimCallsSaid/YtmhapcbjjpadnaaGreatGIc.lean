/- Caches. -/
import Derived.Test.YtmhapcbjjpadnaaGreatGFc
import Derived.Test.YtmhapcbjjpadnaaGreatGGc
import Derived.Test.YtmhapcbjjpadnaaGreatG2c
import Derived.Test.YtmhapcbjjpadnaaGreatG6c
set_option linter.all false
set_option maxHeartbeats 8000000
set_option maxRecDepth 40000
open List renaming getElem?_eq_none→zA,mem_cons→zC,getElem_mem→zD,length_set→zE,ext_getElem?→zF,cons_append→zG,getElem_cons_succ→zH,mem_append→zI,getElem_of_mem→zJ,size_toArray→zK
namespace Go.Proofs.YtmhapcbjjpadnaaGreat
open Go Go.Sk Go.RowKit
def aB6(b:List UInt8)(k i:Nat):List UInt8:=(List.range b.length).map λj=>bif decide (j<i)&&decide (k<=j) then 0 else b.getD j 0
@[simp] theorem mI (b:List UInt8) (k i:Nat):(aB6 b k i).length=b.length:=by simp [aB6]
theorem tP(b:List UInt8)(k i j:Nat)(h:j<b.length):(aB6 b k i)[j]? =some (bif decide (j<i)&&decide (k<=j) then 0 else b.getD j 0):=by simp [aB6,h]
theorem aVG(b:List UInt8)(k:Nat):aB6 b k 0=b:=by
 apply zF;intro j
 by_cases h:j<b.length
 ·rw [tP _ _ _ _ h];simp [h]
 ·rw [zA (by rw [mI];omega),zA (by omega)]
theorem aY2(b:List UInt8)(k i:Nat)(h:k<=i):aB6 b k (i+1)=(aB6 b k i).set i 0:=by
 apply zF;intro j
 by_cases f:j<b.length
 ·rw [tP _ _ _ _ f,List.getElem?_set]
  by_cases e:i=j
  ·subst e;rw [if_pos rfl,if_pos (by rw [mI];exact f),zdt h,zdt (by omega)];rfl
  ·rw [if_neg e,tP _ _ _ _ f,show decide (j<i+1)=decide (j<i) by rw [decide_eq_decide];omega]
 ·rw [zA (by rw [mI];omega),zA (by rw [zE,mI];omega)]
theorem aVF(b:List UInt8)(k i:Nat)(h:¬k<=i):aB6 b k (i+1)=aB6 b k i:=by
 apply zF;intro j
 by_cases f:j<b.length
 ·rw [tP _ _ _ _ f,tP _ _ _ _ f]
  by_cases e:i=j
  ·subst e;rw [zdf h,Bool.and_false,Bool.and_false]
  ·rw [show decide (j<i+1)=decide (j<i) by rw [decide_eq_decide];omega]
 ·rw [zA (by rw [mI];omega),zA (by rw [mI];omega)]
theorem aYI {p:Pg} (h:fQ p) {s:Nat} (j:s<4)(d:ByteArray):fQ (aO1 p s d):=by
 have e:∀v d t:Fin 4,mW false d.val v.val=0->(v.val ||| t.val)<4/\mW false d.val (v.val ||| t.val)=0:=by decide
 obtain⟨f,h2⟩:=e ⟨p.v,h.v⟩ ⟨p.d,h.d⟩ ⟨s,j⟩ h.sub;exact⟨by show(sW p.b.data.toList d.data.toList (aVW s p.v) 16).toArray.size=16;rw [zK,kP];exact h.size,f,h.d,h2⟩
def aK2(c:Dc)(u:Us)(d:ByteArray)(ok:Bool):Us:=⟨u.file,u.page,bif ok then aO1 u.p u.rd ⟨(aB6 d.data.toList ((c.fl.getD u.file aZ).size-u.page*16) 16).toArray⟩ else u.p,u.ten,u.holds,0,u.wr⟩
def aC8(c:Dc)(m:Nat)(u:Us)(d:ByteArray)(ok:Bool):Dc×Int:=bif u.rd==0 then(c,4) else bif ok&&decide (d.size≠16) then(c,1) else(c.put m (aK2 c u d ok),0)
theorem aPG {c:Dc} (h:Ok c) {m:Nat} {u:Us} (f:m<c.fr.length)(h2:c.fr.getD m none=some u)(d:ByteArray)(ok:Bool):fQ (aK2 c u d ok).p:=by
 have e:=h.use m u f h2
 cases ok with
 |false=>exact e.pg
 |true=>exact aYI e.pg e.rd _
theorem bB0 {c:Dc} (h:Ok c) {m:Nat} {u:Us} (e:m<c.fr.length)(h2:c.fr.getD m none=some u)(d:ByteArray)(ok:Bool):Ok (aC8 c m u d ok).1:=by
 have f:=h.use m u e h2;unfold aC8
 cases(u.rd==0) with
 |true=>exact h
 |false=>
  rw [zcf]
  cases(ok&&decide (d.size≠16)) with
  |true=>exact h
  |false=>exact h.put e h2 rfl (aPG h e h2 d ok) f.holds (by show 0<4;omega) f.wr
theorem bQY(c:Dc)(n:Int)(d:ByteArray)(ok:Bool)(f:SmD c)(j:fK c n=false):aM Tryz.prog 50 [] [.agg c.c,.int .i64 n,.str d,.bool ok] (.tup [.agg c.c,.int .i64 2]) []:=by have e:=aBX c n f;rw [j] at e;refine aE (ob0:= []) [] Tryz.func50 rfl rfl rfl rfl ?_;exact Wz
theorem bT6(c:Dc)(h:Ok c)(m:Nat)(u:Us)(C:m<c.fr.length)(h2:c.fr.getD m none=some u)(d:ByteArray)(ok:Bool):
 aM Tryz.prog 50 [] [.agg c.c,.int .i64 ((m+1:Nat):Int),.str d,.bool ok] (.tup [.agg (aC8 c m u d ok).1.c,.int .i64 (aC8 c m u d ok).2]) []:=by
 have W:=h.use70 C h2;have B:=h.use m u C h2;have O:=qA C h2;have Q:=h.nr;have G:=B.file;have J:=aAA G;have Z:=(h.file _ G).size;obtain⟨k0,k1,k2,k3,H,-⟩:=Df.cells (h.file _ G).E;rw [H] at J;have R:=B.page;have T:=B.rd;have N:=h.p155 (u':=aK2 c u d ok) C h2 rfl (aPG h C h2 d ok) (by show 0<4;omega) B.wr;have j:=bOW u.p B.pg u.rd B.rd ⟨(aB6 d.data.toList ((c.fl.getD u.file aZ).size-u.page*16) 16).toArray⟩;generalize f:aC8 c m u d ok=q;unfold aC8 at f
 by_cases K:u.rd=0
 ·rw [zbe.2 K,zct] at f;subst f;refine aE (ob0:= []) [] Tryz.func50 rfl rfl rfl rfl ?_;exact Wz
 rw [zbn.2 K,zcf] at f
 cases ok with
 |false=> have f:(c.put m (aK2 c u d false),(0:Int))=q:=f;subst f;unfold aK2 at *;dsimp only [zcf] at *;generalize c.put m _=e at *;refine aE (ob0:= []) [] Tryz.func50 rfl rfl rfl rfl ?_;exact Wz
 |true=>
  rw [Bool.true_and] at f
  by_cases D:d.size=16
  ·rw [zdf (λe=>e D),zcf] at f;have M:d.data.toList.length=16:=D;have j:=j (by show(aB6 _ _ _).toArray.size=16;rw [zK,mI];exact M);subst f;unfold aK2 at *;dsimp only [zct] at *;generalize aO1 u.p u.rd _=P at *;generalize c.put m _=e at *;generalize(c.fl.getD u.file aZ).size=z at *;refine aE (ob0:= []) [] Tryz.func50 rfl rfl rfl rfl ?_;refine Wx ?_
   refine Lp (λi:Nat=>i<=16) (λi=> [(12,.int .i64 (i:Int))]) (λi=> [(3,.bb (aB6 d.data.toList (z-u.page*16) i))]) (λi=>16-i) 0 (Nat.zero_le _) ?_ ?_
   ·rw [aVG];exact Vr [_,_,_,_]
   intro i Y;have F:=mI d.data.toList (z-u.page*16) i;rw [M] at F;refine Wx ?_;refine gE (λb=>?_) (λb=>?_)
   ·refine Wx ?_;refine gE (λb3=>?_) (λb3=>?_)
    ·refine Wx ?_;refine Le (i+1) (hv:=?_);simp only [aY2 _ _ i (show z-u.page*16<=i by omega)];exact Vr [_,_,_,_]
    ·refine Wx ?_;refine Le (i+1) (hv:=?_);simp only [aVF _ _ i (show ¬z-u.page*16<=i by omega)];exact Vr [_,_,_,_]
   obtain rfl:i=16:=by omega
   rw [<-bI3 (xs:=aB6 d.data.toList (z-u.page*16) 16) (n:=d.size) (by omega)] at j;exact Wz
  ·rw [zdt D,zct] at f;subst f;refine aE (ob0:= []) [] Tryz.func50 rfl rfl rfl rfl ?_;exact Wz
theorem ChZ.sep:∀ {l:List Zn} {f:Int},ChZ f l->∀(i j:Nat) (hi:i<l.length) (e:j<l.length),i<j->l[i].first+l[i].size<=l[j].first
 |z::r,f,h,0,j+1,_,e,_=>by have :=(ChZ.get h.2 j (by simpa using e)).2;simp only [List.getElem_cons_zero,zH];rw [h.1.first];exact this
 |z::r,f,h,i+1,j+1,hi,e,m=>by simp only [zH];exact ChZ.sep h.2 i j (by simpa using hi) (by simpa using e) (by omega)
theorem ChZ.one {l:List Zn} {f:Int} (h:ChZ f l) {i j:Nat} (hi:i<l.length)(m:j<l.length) {x:Int} (z:x∈l[i].free)(h2:x∈l[j].free):i=j:=by
 have a:=(h.get i hi).1.free.inn x z;have b:=(h.get j m).1.free.inn x h2;rcases Nat.lt_trichotomy i j with e |e |e
 ·have :=h.sep i j hi m e;omega
 ·exact e
 ·have :=h.sep j i m hi e;omega
theorem aKM {l:List Zn} (h:bB l=true) {p:Int} {u:Bool} (H:(bZ l l p u).2.2=0):(∃z∈l,(bZ l l p u).2.1∈z.free)/\∀z∈(bZ l l p u).1,∀x∈z.free,x≠(bZ l l p u).2.1/\∃w∈l,x∈w.free:=by
 have G:=(eR l).1 h;have F:=aUL (base:=l) (p:=p) (u:=u) h;generalize bZ l l p u=q at *
 cases F with
 |range _=>cases H
 |full _ _ _=>cases H
 |ok N O i D R C Q=>
  have hg:=(G.1.get i D).1
  have f:0<l[i].free.length:=by
   have :=hg.marks;unfold uC aHF at C;have C:=of_decide_eq_true C
   cases u with
   |true=>rw [zct] at C;omega
   |false=>rw [zcf] at C;omega
  have J:l[i].free.getD 0 0∈l[i].free:=by rw [<-fO _ 0 f];exact zD f
  dsimp only;refine⟨⟨_,zD D,J⟩,λz E x m=>?_⟩;obtain⟨j,K,rfl⟩:=zJ E;have B:j<l.length:=by simpa using K
  by_cases e:i=j
  ·subst e;rw [List.getElem_set_self] at m;have m:x∈l[i].free.drop 1:=m;refine⟨?_,_,zD D,List.mem_of_mem_drop m⟩;rintro rfl;obtain⟨k,M,e⟩:=zJ m;rw [List.length_drop] at M;rw [List.getElem_drop,fO _ _ (by omega)] at e;have :=lX hg.free.asc 0 (1+k) (by omega) (by omega);omega
  ·rw [List.getElem_set_ne e] at m;refine⟨?_,_,zD B,m⟩;rintro rfl;exact e (G.1.one D B J m)
theorem bC8 {l:Ls} (J:dU l=true) {f:Int} (m:Bool)(G:cI f=true)(E:¬tD l f):dU (tC l f m).1=true/\(∀x,tD (tC l f m).1 x->x=f\/tD l x)/\(tC l f m).1=(bif m then⟨f::l.A,l.I,l.R⟩ else⟨l.A,f::l.I,l.R⟩):=by
 have z:=(bF l).1 J;have H:=(nL f).1 G;have B:f∉l.A:=λh=>E (.inl h);have C:f∉l.I:=λh=>E (.inr h)
 have K:mL l f=false:=by
  cases e:mL l f with
  |false=>rfl
  |true=> unfold mL at e;simp only [Bool.or_eq_true,decide_eq_true_eq] at e;exact absurd e E
 unfold tC aQ9;rw [J,G,K,Bool.not_true,zcf,zcf,zcf]
 cases m with
 |true=>
  rw [zct];refine⟨(bF _).2 ⟨?_,λx j=>?_,z.asc,λx j=>?_⟩,λx j=>?_,rfl⟩
  ·show((f::l.A)++l.I).Nodup;rw [zG,List.nodup_cons,zI];exact⟨λh=>h.elim B C,z.nodup⟩
  ·have j:x∈(f::l.A)++l.I:=j;rw [zG,zC] at j;rcases j with rfl |j
   ·exact H
   ·exact z.known x j
  ·show x∈(f::l.A)++l.I;rw [zG,zC];exact .inr (z.sub x j)
  ·unfold tD at j;dsimp only at j;rw [zC] at j;rcases j with (rfl |h)|h
   ·exact .inl rfl
   ·exact .inr (.inl h)
   ·exact .inr (.inr h)
 |false=>
  rw [zcf];refine⟨(bF _).2 ⟨?_,λx j=>?_,z.asc,λx j=>?_⟩,λx j=>?_,rfl⟩
  ·show(l.A++(f::l.I)).Nodup;have :=List.nodup_append.1 z.nodup;refine List.nodup_append.2 ⟨this.1,List.nodup_cons.2 ⟨C,this.2.1⟩,λa F b D=>?_⟩;rcases List.mem_cons.1 D with rfl |D
   ·rintro rfl;exact B F
   ·exact this.2.2 a F b D
  ·have j:x∈l.A++(f::l.I):=j;rw [zI,zC] at j;rcases j with j |rfl |j
   ·exact z.known x (List.mem_append_left _ j)
   ·exact H
   ·exact z.known x (List.mem_append_right _ j)
  ·show x∈l.A++(f::l.I);rw [zI,zC];rcases List.mem_append.1 (z.sub x j) with h |h
   ·exact .inl h
   ·exact .inr (.inr h)
  ·unfold tD at j;dsimp only at j;rw [zC] at j;rcases j with h |rfl |h
   ·exact .inr (.inl h)
   ·exact .inl rfl
   ·exact .inr (.inr h)
theorem aQH {g:List Gr} (h:mY g=true) {t:Nat} (f:t<g.length):mY (eY g t).1=true/\(eY g t).1.length=g.length:=by
 have hg:=aGW h f;unfold eY
 by_cases e:(g.getD t g0).lim- (g.getD t g0).chg<1
 ·rw [zdt e,zct];exact⟨h,rfl⟩
 ·rw [zdf e,zcf];exact⟨aSG h (by omega) (by omega),tN _ _ _⟩
def aT8(b p:Nat):Pg:=bif sS b p then⟨z16,3,0⟩ else⟨z16,0,0⟩
theorem aZG(b p:Nat):fQ (aT8 b p):=by
 unfold aT8
 cases sS b p with
 |true=>exact⟨rfl,by decide,by decide,by decide⟩
 |false=>exact⟨rfl,by decide,by decide,by decide⟩
def aD7(c:Dc)(f p t:Nat):Us:=⟨f,p,aT8 (c.fl.getD f aZ).blocks p,t,0,0,0⟩
def aQY(c:Dc)(f p t:Nat):Bool:=bC7 (c.ck.getD t 0) ((c.fl.getD f aZ).E p).1 ((c.ls.getD t l0).A.length:Int)
def Dc.ins(c:Dc)(f p t:Nat)(z:List Zn)(g:List Gr)(m:Nat):Dc:= ⟨c.fl.set f (iG (c.fl.getD f aZ) (eH (c.fl.getD f aZ).E p (((m+1:Nat):Int),0))),c.fr.set m (some (aD7 c f p t)),z,g,c.ls.set t (tC (c.ls.getD t l0) ((m+1:Nat):Int) (aQY c f p t)).1,c.ck,c.pt⟩
theorem Ok.ins {c:Dc} (h:Ok c) {f p t m:Nat} {z:List Zn} {g:List Gr} (Y:f<c.fl.length)(hp:p<8)(ht:t<c.gr.length)(hE:((c.fl.getD f aZ).E p).1<=0)(hm:m<c.fr.length)(hn:c.fr.getD m none=none)
 (hz:bB z=true) (ac:∀w∈z,∀x∈w.free,x≠((m+1:Nat):Int)/\∃v∈c.zo,x∈v.free) (hg:mY g=true) (F:g.length=c.gr.length):Ok (c.ins f p t z g m):=by
 have Z:=h.file f Y;have T:cI ((m+1:Nat):Int)=true:=(nL _).2 (by have :=h.nr;omega);have H:t<c.ls.length:=by rw [h.nl];exact ht
 have R:∀s,s<c.ls.length->¬tD (c.ls.getD s l0) ((m+1:Nat):Int):=λs N D=>by
  obtain⟨n,u,k1,k2,k3,k4⟩:=h.mem s _ N D;have :n=m:=by omega
  subst this;rw [hn] at k3;cases k3
 obtain⟨a1,a2,a3⟩:=bC8 (h.ls t H) (aQY c f p t) T (R t H)
 have M:∀e q,(((c.ins f p t z g m).fl.getD e aZ).E q).1=if e=f/\q=p then((m+1:Nat):Int) else((c.fl.getD e aZ).E q).1:=λe q=>by
  show(((c.fl.set f (iG (c.fl.getD f aZ) (eH (c.fl.getD f aZ).E p (((m+1:Nat):Int),0)))).getD e aZ).E q).1=_
  by_cases e1:e=f
  ·subst e1;rw [aH _ _ _ _ Y,aAZ]
   by_cases K:q=p
   ·subst K;rw [fV,if_pos ⟨rfl,rfl⟩]
   ·rw [eZ K,if_neg (λh=>K h.2)]
  ·rw [getD_set_ne _ _ _ e1,if_neg (λh=>e1 h.1)]
 have C:∀n,(c.ins f p t z g m).fr.getD n none=if n=m then some (aD7 c f p t) else c.fr.getD n none:=λn=>by
  show(c.fr.set m (some (aD7 c f p t))).getD n none=_
  by_cases e:n=m
  ·subst e;rw [aH _ _ _ _ hm,if_pos rfl]
  ·rw [getD_set_ne _ _ _ e,if_neg e]
 have j:(c.ins f p t z g m).fr.length=c.fr.length:=zE ..;have B:(c.ins f p t z g m).fl.length=c.fl.length:=zE ..;have G:(c.ins f p t z g m).ls.length=c.ls.length:=zE ..;refine⟨by rw [B];exact h.nf,by rw [j];exact h.nr,by show g.length<=4;rw [F];exact h.ng,by rw [G];show c.ls.length=g.length;rw [F];exact h.nl,by show c.ck.length=g.length;rw [F];exact h.nk,λe he=>?_,λn u aa Q=>?_,λe q he hq=>?_,hz,λw hw x D=>?_,hg,λs N=>?_,λs x N D=>?_,h.ck,h.pt⟩
 ·show OkF ((c.fl.set f (iG (c.fl.getD f aZ) (eH (c.fl.getD f aZ).E p (((m+1:Nat):Int),0)))).getD e aZ)
  by_cases e1:e=f
  ·subst e1;rw [aH _ _ _ _ Y];refine Z.iG (Z.E.set (Nat.zero_lt_succ _) (λ_=>rfl)) (Z.sup.set (by omega) _) (λq=>?_)
   by_cases K:q=p
   ·subst K;rw [fV];show(-1000001:Int)<=((m+1:Nat):Int);omega
   ·rw [eZ K];exact Z.lo q
  ·rw [getD_set_ne _ _ _ e1];exact h.file e (by rw [<-B];exact he)
 ·rw [C] at Q
  by_cases e:n=m
  ·subst e;rw [if_pos rfl] at Q;injection Q with Q
   subst Q;refine⟨by rw [B];exact Y,hp,aZG _ _,by show t<g.length;rw [F];exact ht,Nat.zero_le _,by show 0<4;omega,by show 0<4;omega,?_⟩;rw [M,if_pos ⟨rfl,rfl⟩]
  ·rw [if_neg e] at Q;have J:=h.use n u (by rw [<-j];exact aa) Q;refine⟨by rw [B];exact J.file,J.page,J.pg,by show u.ten<g.length;rw [F];exact J.ten,J.holds,J.rd,J.wr,?_⟩;rw [M,if_neg]
   ·exact J.val
   ·rintro ⟨e1,K⟩;have :=J.val;rw [e1,K] at this;omega
 ·rw [M] at hq⊢
  by_cases e1:e=f/\q=p
  ·rw [if_pos e1];obtain⟨rfl,rfl⟩:=e1;exact⟨m,aD7 c e q t,by rw [j];exact hm,rfl,by rw [C,if_pos rfl],rfl,rfl⟩
  ·rw [if_neg e1] at hq⊢;obtain⟨n,u,k1,k2,k3,k4,k5⟩:=h.ent e q (by rw [<-B];exact he) hq;refine⟨n,u,by rw [j];exact k1,k2,?_,k4,k5⟩;rw [C,if_neg]
   ·exact k3
   ·rintro rfl;rw [hn] at k3;cases k3
 ·obtain⟨x1,v,hv,ab⟩:=ac w hw x D;obtain⟨n,k1,k2,k3⟩:=h.free v hv x ab;refine⟨n,by rw [j];exact k1,k2,?_⟩;rw [C,if_neg]
  ·exact k3
  ·rintro rfl;exact x1 k2
 ·have O:s<c.ls.length:=by rw [<-G];exact N
  clear N;show dU ((c.ls.set t (tC (c.ls.getD t l0) ((m+1:Nat):Int) (aQY c f p t)).1).getD s l0)=true
  by_cases e:s=t
  ·rw [e,aH _ _ _ _ H];exact a1
  ·rw [getD_set_ne _ _ _ e];exact h.ls s O
 ·have O:s<c.ls.length:=by rw [<-G];exact N
  clear N;have D:tD ((c.ls.set t (tC (c.ls.getD t l0) ((m+1:Nat):Int) (aQY c f p t)).1).getD s l0) x:=D
  have W:tD (c.ls.getD s l0) x->∃n u,n< (c.ins f p t z g m).fr.length/\x=((n+1:Nat):Int)/\(c.ins f p t z g m).fr.getD n none=some u/\u.ten=s:=λD=>by
   obtain⟨n,u,k1,k2,k3,k4⟩:=h.mem s x O D;refine⟨n,u,by rw [j];exact k1,k2,?_,k4⟩;rw [C,if_neg]
   ·exact k3
   ·rintro rfl;rw [hn] at k3;cases k3
  by_cases e:s=t
  ·cases e
   rw [aH _ _ _ _ H] at D;rcases a2 x D with rfl |D
   ·exact⟨m,aD7 c f p t,by rw [j];exact hm,rfl,by rw [C,if_pos rfl],rfl⟩
   ·exact W D
  ·rw [getD_set_ne _ _ _ e] at D;exact W D
def fI(c:Dc)(f p t:Nat)(pf:Int)(ur:Bool):Dc×Int×Int:=
 bif decide (0< ((c.fl.getD f aZ).E p).1) then(c,0,5) else
 bif (eY c.gr t).2==0 then
  (bif (bZ c.zo c.zo pf ur).2.2==0 then(c.ins f p t (bZ c.zo c.zo pf ur).1 (eY c.gr t).1 ((bZ c.zo c.zo pf ur).2.1-1).toNat,(bZ c.zo c.zo pf ur).2.1,0) else(c,0,(bZ c.zo c.zo pf ur).2.2))
 else(c,0,(eY c.gr t).2)
theorem take_at {c:Dc} (h:Ok c) {e:Int} {f:Bool} (j:(bZ c.zo c.zo e f).2.2=0):∃m,m<c.fr.length/\(bZ c.zo c.zo e f).2.1=((m+1:Nat):Int)/\c.fr.getD m none=none:=by obtain⟨⟨z,C,B⟩,-⟩:=aKM h.zone j;exact h.free z C _ B
theorem bDD {c:Dc} (h:Ok c) {f p t:Nat} (C:Int)(D:Bool)(F:f<c.fl.length)(G:p<8)(z:t<c.gr.length):Ok (fI c f p t C D).1:=by
 unfold fI
 by_cases e1:0< ((c.fl.getD f aZ).E p).1
 ·rw [zdt e1];exact h
 rw [zdf e1,zcf]
 cases K:((eY c.gr t).2==0) with
 |false=>exact h
 |true=>
  rw [zct]
  cases e:((bZ c.zo c.zo C D).2.2==0) with
  |false=>exact h
  |true=> rw [zct];have e:=eq_of_beq e;obtain⟨m,H,B,J⟩:=take_at h e;have j:=(aKM h.zone e).2;have hg:=aQH h.gr z;dsimp only;rw [B,show(((m+1:Nat):Int)-1).toNat=m by omega];rw [B] at j;exact h.ins F G z (by omega) H J (uX (fB.refl _) h.zone) j hg.1 hg.2
end Go.Proofs.YtmhapcbjjpadnaaGreat
