/- Caches. -/
import Derived.Test.YtmhapcbjjpadnaaGreatGFg
set_option linter.all false
set_option maxHeartbeats 8000000
set_option maxRecDepth 40000
open Bool renaming or_false→zI
open List renaming length_set→zA
open Nat renaming zero_testBit→zC,testBit_or→zD,le_of_not_lt→zE,zero_lt_succ→zF,pow_lt_pow_right→zG,testBit_two_pow→zH,or_lt_two_pow→zJ,le_refl→zK
namespace Go.Proofs.YtmhapcbjjpadnaaGreat
open Go Go.Sk Go.RowKit
theorem bPV(c:Dc)(m:Nat)(u:Us)(f p:Nat):(((c.put m u).fl.getD f aX).E p).1=((c.fl.getD f aX).E p).1:=by
 show(((c.fl.set u.file (hY (c.fl.getD u.file aX) (mE (c.fl.getD u.file aX).E u))).getD f aX).E p).1=_
 by_cases e:f=u.file
 ·subst e
  by_cases j:u.file<c.fl.length
  ·rw [aE _ _ _ _ j,aAK,aQC]
  ·rw [dI _ _ (zE j)]
 ·rw [getD_set_ne _ _ _ e]
@[simp] theorem vC (c:Dc) (m:Nat) (u:Us):(c.put m u).fl.length=c.fl.length:=zA ..
@[simp] theorem vD (c:Dc) (m:Nat) (u:Us):(c.put m u).fr.length=c.fr.length:=zA ..
theorem aL8 {c:Dc} (h:Ok c) {m:Nat} {u u':Us} (hm:m<c.fr.length)(z:c.fr.getD m none=some u)(f p:Nat)(C:f<c.fl.length):jH (c.put m u') f p=if f=u.file/\p=u.page then some (m,u') else jH c f p:=by
 have k:=h.use m u hm z;unfold jH;rw [bPV]
 have e:∀j,(c.put m u').fr.getD j none=if j=m then some u' else c.fr.getD j none:=λj=>by
  show(c.fr.set m (some u')).getD j none=_
  by_cases e:j=m
  ·subst e;rw [aE _ _ _ _ hm,if_pos rfl]
  ·rw [getD_set_ne _ _ _ e,if_neg e]
 rw [e]
 by_cases e1:f=u.file/\p=u.page
 ·obtain⟨rfl,rfl⟩:=e1;rw [k.val,zdt (by omega),zct,show(((m+1:Nat):Int)-1).toNat=m by omega,if_pos rfl,if_pos (And.intro rfl rfl)];rfl
 ·rw [if_neg e1]
  cases B:decide (0< ((c.fl.getD f aX).E p).1) with
  |false=>rfl
  |true=>
   obtain⟨n,w,k1,k2,k3,k4,D⟩:=h.ent f p C (of_decide_eq_true B);rw [k2,show(((n+1:Nat):Int)-1).toNat=n by omega,if_neg];rintro rfl;rw [z] at k3;injection k3 with k3
   subst k3;exact e1 ⟨k4.symm,D.symm⟩
theorem aK3 {c:Dc} {f off n:Nat} {w:Bool} :∀ {j:Nat},lD c f off n w j=some []->∀k,k<j->∀m u,jH c f (off/16+k)=some (m,u)->kX u off n (off/16+k) w=0
 |0,_,k,C=>by omega
 |j+1,h,k,C=>by
  intro m u z;rw [lD] at h;split at h
  ·rename_i D E u' h1 h2;have h:=zsi h
   cases B:(kX u' off n (off/16+j) w==0) with
   |false=>rw [B,zcf] at h;simp at h
   |true=>
    rw [B,zct] at h;subst h
    by_cases e:k=j
    ·subst e;rw [h2] at z;obtain⟨rfl,rfl⟩:=Prod.mk.inj (zsi z);exact zbe.1 B
    ·exact aK3 h1 k (by omega) m u z
  ·cases h
theorem aP5 {b s:ByteArray} {off:Nat} (h:off+s.size<=b.size):(aI3 b off s).size=b.size:=by unfold aI3;rw [aFQ,aFQ,qA,qA];omega
theorem vJ {p:Pg} (h:fJ p) {off:Nat} {s:ByteArray} (j:off+s.size<=16):fJ (uM p off s):=by
 have m:tch off s.size<4:=(aFB off s.size (zK 2)).1;have e:∀v d t:Fin 4,mK false d.val v.val=0->(v.val ||| t.val)<4/\(d.val ||| t.val)<4/\mK false (d.val ||| t.val) (v.val ||| t.val)=0:=by decide
 obtain⟨h1,h2,f⟩:=e ⟨p.v,h.v⟩ ⟨p.d,h.d⟩ ⟨tch off s.size,m⟩ h.sub;exact⟨by show(aI3 p.b off s).size=16;rw [aP5 (by rw [h.size];exact j),h.size],h1,h2,f⟩
def tP(p off n:Nat):Nat:=p*16+(cH p off n).1-off
def wrL(c:Dc)(f off:Nat)(s:ByteArray):Nat->Dc
 |0=>c
 |k+1=>match jH (wrL c f off s k) f (off/16+k) with
  |some (m,u)=>((wrL c f off s k).put m (sS u (uM u.p (cH (off/16+k) off s.size).1 (s.extract (tP (off/16+k) off s.size) (tP (off/16+k) off s.size+(cH (off/16+k) off s.size).2))))).acc m u.ten
  |none=>wrL c f off s k
theorem aXU {off n k:Nat} (e:k<cnt off n):tP (off/16+k) off n+(cH (off/16+k) off n).2<=n/\off<=(off/16+k)*16+(cH (off/16+k) off n).1:=by have :=sC e;unfold tP;omega
theorem aTZ {s:ByteArray} {off k:Nat} (e:k<cnt off s.size):(s.extract (tP (off/16+k) off s.size) (tP (off/16+k) off s.size+(cH (off/16+k) off s.size).2)).size=(cH (off/16+k) off s.size).2:=by have :=aXU e;rw [qA];omega
theorem Ok.put' {c:Dc} (h:Ok c) {n:Nat} {u:Us} {p:Pg} (e:n<c.fr.length)(f:c.fr.getD n none=some u)(j:fJ p):Ok (c.put n (sS u p)):=
 have k:=h.use n u e f
 h.put e f rfl j k.holds k.rd k.wr
theorem aDD {c:Dc} (h:Ok c) {f off:Nat} {s:ByteArray} (z:f<c.fl.length)(C:off+s.size<=128):∀k,k<=cnt off s.size->Ok (wrL c f off s k)/\(wrL c f off s k).fl.length=c.fl.length/\∀i,k<=i->jH (wrL c f off s k) f (off/16+i)=jH c f (off/16+i)
 |0,_=>⟨h,rfl,λ_ _=>rfl⟩
 |k+1,B=>by
  obtain⟨h1,h2,j⟩:=aDD h z C k (by omega);rw [wrL];split
  ·rename_i m u E;have e:f< (wrL c f off s k).fl.length:=by rw [h2];exact z
   obtain⟨q1,q2,J,H,K⟩:=cY h1 e E;have F:=h1.use m u q1 q2;have G:=vJ F.pg (off:=(cH (off/16+k) off s.size).1) (s:=s.extract (tP (off/16+k) off s.size) (tP (off/16+k) off s.size+(cH (off/16+k) off s.size).2)) (by rw [aTZ B];exact(sC B).1);refine⟨(h1.put' q1 q2 G).acc _ _,by show((wrL c f off s k).put _ _).fl.length=_;rw [vC];exact h2,λi D=>?_⟩;show jH ((wrL c f off s k).put _ _) f (off/16+i)=_;rw [aL8 h1 q1 q2 f _ e,if_neg (by rw [H];omega),j i (by omega)]
  ·exact⟨h1,h2,λi D=>j i (by omega)⟩
theorem bNN(c:Dc)(h:Ok c)(f off:Nat)(s:ByteArray)(J:f<c.fl.length)(F:off+s.size<=128)(H:lD c f off s.size true (cnt off s.size)=some []):aM Tryz.prog 169 [] [.agg c.c,.int .i64 (f:Int),.int .i64 (off:Int),.str s] (.agg (wrL c f off s (cnt off s.size)).c) []:=by
 have ac:=aSV off s.size F;have R:=rI F;refine aG (ob0:= []) [] Tryz.func169 rfl rfl rfl rfl ?_;refine Wx ?_;refine Lp (λi:Nat=>i<=cnt off s.size) (λi=> [(10,.int .i64 (i:Int))]) (λi=> [(0,.box (wrL c f off s i).c)]) (λi=>cnt off s.size-i) 0 (Nat.zero_le _) ?_ ?_
 ·exact Vr [_,_]
 intro i Z;refine Wx ?_;refine iF (λb=>?_) (λb=>?_)
 ·have b:i<cnt off s.size:=by omega
  have hg:=aF6 (off/16) (cnt off s.size) i b;have M:=aL5 (show off+s.size<=128 by omega) b;obtain⟨m,u,B⟩:=aK2 H i b;obtain⟨j,o2,o3⟩:=aDD h J F i Z;have E:=aK3 H i b m u B;rw [<-o3 i (zK i)] at B;have G:wrL c f off s (i+1)=((wrL c f off s i).put m (sS u (uM u.p (cH (off/16+i) off s.size).1 (s.extract (tP (off/16+i) off s.size) (tP (off/16+i) off s.size+(cH (off/16+i) off s.size).2))))).acc m u.ten:=by rw [wrL,B]
  have W:=aXU b;have T:tP (off/16+i) off s.size=(off/16+i)*16+(cH (off/16+i) off s.size).1-off:=rfl;have e:=aTZ (s:=s) (off:=off) b;have C:=sC b;generalize wrL c f off s i=d at *;have z:f<d.fl.length:=by rw [o2];exact J
  have ab:=j.f33s z B;obtain⟨q1,q2,q3,q4,q5⟩:=cY j z B;have D:=j.use m u q1 q2;have Y:=qW q1 q2;have aa:=j.nr;unfold kX at E;rw [<-e] at E;have Q:=bGL u.p D.pg _ _ (by rw [e];exact C.1) E;rw [e] at E;have K:=vJ D.pg (off:=(cH (off/16+i) off s.size).1) (s:=s.extract (tP (off/16+i) off s.size) (tP (off/16+i) off s.size+(cH (off/16+i) off s.size).2)) (by rw [e];exact C.1)
  have O:=j.p155 (u':=sS u (uM u.p (cH (off/16+i) off s.size).1 (s.extract (tP (off/16+i) off s.size) (tP (off/16+i) off s.size+(cH (off/16+i) off s.size).2)))) q1 q2 rfl K D.rd D.wr;have o4:=j.put' q1 q2 K;have N:=o4.a127 (n:=m) (u:=sS u (uM u.p (cH (off/16+i) off s.size).1 (s.extract (tP (off/16+i) off s.size) (tP (off/16+i) off s.size+(cH (off/16+i) off s.size).2)))) (by rw [vD];exact q1) (aE _ _ _ _ q1);refine Wx ?_;refine Le (i+1) (hv:=?_);simp only [G];exact Vr [_,_]
 obtain rfl:i=cnt off s.size:=by omega
 exact Wz
def fsz(f:Df)(n:Nat):Df:=⟨f.dev,f.slot,f.E,n,f.blocks,f.ec,f.ee⟩
def Dc.sz(c:Dc)(f n:Nat):Dc:=⟨c.fl.set f (fsz (c.fl.getD f aX) n),c.fr,c.zo,c.gr,c.ls,c.ck,c.pt⟩
theorem Ok.sz {c:Dc} (h:Ok c) {f n:Nat} (j:f<c.fl.length)(B:n<=128):Ok (c.sz f n):=by
 refine h.same (zA ..) (λg p=>?_) (λg hg=>?_) rfl (λ_=>rfl) (λm v z C=>?_) rfl rfl rfl h.ls (λ_ _ D=>D) rfl h.pt
 ·show(((c.fl.set f (fsz (c.fl.getD f aX) n)).getD g aX).E p).1=_
  by_cases e:g=f
  ·subst e;rw [aE _ _ _ _ j];rfl
  ·rw [getD_set_ne _ _ _ e]
 ·show OkF ((c.fl.set f (fsz (c.fl.getD f aX) n)).getD g aX)
  by_cases e:g=f
  ·subst e;rw [aE _ _ _ _ j];have k:=h.file g hg;exact⟨k.E,k.sup,k.lo,B,k.blocks,k.ec,k.ee⟩
  ·rw [getD_set_ne _ _ _ e];exact h.file g hg
 ·have :=h.use m v z C;exact⟨this.pg,this.holds,this.rd,this.wr⟩
def aBW(c:Dc)(f off:Nat)(s:ByteArray):Dc×Int:=bif s.size==0 then(c,0) else
 match lD c f off s.size true (cnt off s.size),(dG c f ((off+s.size:Nat):Int)).2 with
 |none,_=>(c,4)
 |some L,g=>bif g==4 then(c,4) else bif L.isEmpty&&g==0 then((wrL (dG c f ((off+s.size:Nat):Int)).1 f off s (cnt off s.size)).sz f (max ((wrL (dG c f ((off+s.size:Nat):Int)).1 f off s (cnt off s.size)).fl.getD f aX).size (off+s.size)),0) else(c,7)
theorem vG {c:Dc} (h:Ok c) {f:Nat} (e:Int)(j:f<c.fl.length):Ok (dG c f e).1/\(dG c f e).1.fl.length=c.fl.length/\((dG c f e).2=0\/(dG c f e).2=4\/(dG c f e).2=7)/\((dG c f e).2≠0->(dG c f e).1=c):=by
 unfold dG;split
 ·exact⟨h,rfl,.inl rfl,λ_=>rfl⟩
 ·rename_i p s B;obtain⟨H,J,D,K,M⟩:=aAL B (h.file f j).size;split
  ·exact⟨h,rfl,.inr (.inl rfl),λ_=>rfl⟩
  ·rename_i m u z;obtain⟨q1,q2,E,F,G⟩:=cY h j z;have C:=h.use m u q1 q2
   cases(mK false s u.p.v==0) with
   |true=>exact⟨h.put' q1 q2 (aBQ C.pg D),vC _ _ _,.inl rfl,λk=>absurd rfl k⟩
   |false=>exact⟨h,rfl,.inr (.inr rfl),λ_=>rfl⟩
theorem bDL {c:Dc} (h:Ok c) {f:Nat} (e:Int)(j:f<c.fl.length)(p:Nat):(jH (dG c f e).1 f p).map (λx=>(x.1,x.2.p.v))=(jH c f p).map (λx=>(x.1,x.2.p.v)):=by
 unfold dG;split
 ·rfl
 ·rename_i D s C;split
  ·rfl
  ·rename_i m u z;obtain⟨q1,q2,E,B,F⟩:=cY h j z
   cases(mK false s u.p.v==0) with
   |false=>rfl
   |true=>
    show(jH (c.put m (sS u (aE4 u.p s))) f p).map _=_;rw [aL8 h q1 q2 f p j]
    by_cases e1:f=u.file/\p=u.page
    ·rw [if_pos e1,e1.2,B,z];rfl
    ·rw [if_neg e1]
theorem bB3 {c d:Dc} {f off n:Nat} {w:Bool} (h:∀p,(jH d f p).map (λx=>(x.1,x.2.p.v))=(jH c f p).map (λx=>(x.1,x.2.p.v))):∀k,lD d f off n w k=lD c f off n w k
 |0=>rfl
 |k+1=>by
  have j:=h (off/16+k);rw [lD,lD,bB3 h k]
  cases h1:jH d f (off/16+k) with
  |none=>
   rw [h1] at j
   cases h2:jH c f (off/16+k) with
   |none=>rfl
   |some y=>rw [h2] at j;cases j
  |some x=>
   rw [h1] at j
   cases h2:jH c f (off/16+k) with
   |none=>rw [h2] at j;cases j
   |some y=>
    rw [h2] at j;obtain⟨m,u⟩:=x;obtain⟨C,B⟩:=y;simp only [Option.map_some,zse,Prod.mk.injEq] at j;obtain⟨rfl,z⟩:=j
    cases lD c f off n w k with
    |none=>rfl
    |some L=>
     have e:kX u off n (off/16+k) w=kX B off n (off/16+k) w:=by unfold kX aDQ;rw [z]
     dsimp only;rw [e]
theorem bH9 {L:List Df} {f n:Nat} (h:f<L.length)(j:bG (L.getD f aX).E):(bF L).set f (aS 15 (L.getD f aX).c 6 [.int .i64 (n:Int)])=bF (L.set f (fsz (L.getD f aX) n)):=by
 rw [bF,bF,List.map_set];obtain⟨k0,k1,k2,k3,e,-⟩:=Df.cells j;obtain⟨C,q1,q2,D,z,B⟩:=Df.cells (f:=fsz (L.getD f aX) n) j;obtain⟨k0,k1,k2,k3,e,m⟩:=Df.cells j
 congr 1
 unfold Df.c fsz;dsimp only;rw [m];rfl
theorem bRV(c:Dc)(h:Ok c)(f off:Nat)(s:ByteArray)(C:f<c.fl.length)(G:off+s.size<=128):aM Tryz.prog 57 [] [.agg c.c,.int .i64 (f:Int),.int .i64 (off:Int),.str s] (.tup [.agg (aBW c f off s).1.c,.int .i64 (aBW c f off s).2]) []:=by
 have Z:=aH2 c f C;have J:=aBA (off:Int) (s.size:Int);rw [aC3 G] at J;have B:=bRU c h f off s.size C G true;have aa:=bG4 c h f ((off+s.size:Nat):Int) C;obtain⟨o1,R,o3,o4⟩:=vG h ((off+s.size:Nat):Int) C;have O:=λk=>bB3 (c:=c) (off:=off) (n:=s.size) (w:=true) (bDL h ((off+s.size:Nat):Int) C) k;generalize j:aBW c f off s=q;unfold aBW at j
 by_cases Y:s.size=0
 ·rw [zbe.2 Y,zct] at j;subst j;refine aG (ob0:= []) [] Tryz.func57 rfl rfl rfl rfl ?_;exact Wz
 rw [zbn.2 Y,zcf] at j;generalize dG c f ((off+s.size:Nat):Int)=x at *;obtain⟨d,g⟩:=x;dsimp only at *
 cases F:lD c f off s.size true (cnt off s.size) with
 |none=> rw [F] at j B;dsimp only [bEK] at j B;subst j;refine aG (ob0:= []) [] Tryz.func57 rfl rfl rfl rfl ?_;exact Wz
 |some L=>
  rw [F] at j B;dsimp only [bEK] at j B;have N:=aHX F;have ac:=rI G
  by_cases W:g=4
  ·subst W;subst j;refine aG (ob0:= []) [] Tryz.func57 rfl rfl rfl rfl ?_;exact Wz
  rw [zbn.2 W,zcf] at j
  cases L with
  |cons a L=> subst j;simp only [List.length_cons] at N;refine aG (ob0:= []) [] Tryz.func57 rfl rfl rfl rfl ?_;exact Wz
  |nil=>
   by_cases g0:g=0
   ·subst g0;subst j;rw [<-O] at F;have ab:=bNN d o1 f off s (by rw [R];exact C) G F;obtain⟨T,w2,w3⟩:=aDD o1 (s:=s) (off:=off) (show f<d.fl.length by rw [R];exact C) G _ (zK _);generalize wrL d f off s (cnt off s.size)=e at *;have D:f<e.fl.length:=by rw [w2,R];exact C
    have ad:=aO4 e T.sm;have M:=vS D;have Q:=T.file f D;have H:=bH9 (n:=max (e.fl.getD f aX).size (off+s.size)) D Q.E;obtain⟨k0,k1,k2,k3,K,-⟩:=Df.cells Q.E;rw [K] at M H;have hs:=Q.size;unfold Dc.sz;simp only [Dc.c,Bool.cond_true_left,zct,List.isEmpty_nil,Bool.true_and,beq_self_eq_true];rw [<-H];generalize(e.fl.getD f aX).size=z at *;have m:=T.sm;have h1:=m.fl;have h2:=m.fr;have h3:=m.gr;have h4:=m.ls;have h5:=m.ck
    refine aG (ob0:= []) [] Tryz.func57 rfl rfl rfl rfl ?_;exact Wz
   ·rw [show(List.isEmpty ([]:List (Nat×Nat))&&g==0)=false from by rw [zbn.2 g0];rfl] at j;subst j;refine aG (ob0:= []) [] Tryz.func57 rfl rfl rfl rfl ?_;exact Wz
def isW(c:Dc)(f off n p:Nat):Bool:=bif ((cH p off n).1:Int)==0 then((p*16+(cH p off n).2:Nat):Int)==((min (c.fl.getD f aX).size ((p+1)*16):Nat):Int) else false
def aCQ(c:Dc)(f off n p:Nat):Bool:=bif isW c f off n p then(match jH c f p with |none=>true |some x=>dW x.2) else(match jH c f p with |none=>false |some x=>bif bif (x.2.rd:Int)==0 then(x.2.wr:Int)==0 else false then(kX x.2 off n p true:Int)==0 else false)
def gP(c:Dc)(f off n:Nat):Nat->Nat×Nat×Bool
 |0=>(0,0,true)
 |k+1=>(bif isW c f off n (off/16+k) then(gP c f off n k).1 ||| 2^(off/16+k) else(gP c f off n k).1,bif isW c f off n (off/16+k) then(gP c f off n k).2.1 else(gP c f off n k).2.1 ||| 2^(off/16+k),(gP c f off n k).2.2&&aCQ c f off n (off/16+k))
theorem aKG(c:Dc)(f off n:Nat):∀k,off/16+k<=8->(gP c f off n k).1<256/\(gP c f off n k).2.1<256
 |0,_=>⟨zF _,zF _⟩
 |k+1,h=>by
  obtain⟨h1,h2⟩:=aKG c f off n k (by omega);have e:2^(off/16+k)<2^8:=zG (by omega) (by omega);have h4:=zJ (n:=8) h1 e;have h5:=zJ (n:=8) h2 e;rw [gP];dsimp only;cases isW c f off n (off/16+k)
  ·exact⟨h1,h5⟩
  ·exact⟨h4,h2⟩
def aX1(x:Nat×Nat×Bool):V:=.tup [.int .i64 (x.1:Int),.int .i64 (x.2.1:Int),.bool x.2.2]
theorem bJW(c:Dc)(h:Ok c)(f off n:Nat)(B:f<c.fl.length)(W:off+n<=128):aM Tryz.prog 59 [] [.agg c.c,.int .i64 (f:Int),.int .i64 (off:Int),.int .i64 (n:Int)] (aX1 (gP c f off (gT c f off n) (cnt off (gT c f off n)))) []:=by
 have Q:=aH2 c f B;have F:=aBA (off:Int) (n:Int);rw [aC3 W] at F;have K:=vS B;have hs:=(h.file f B).size;obtain⟨k0,k1,k2,k3,J,-⟩:=Df.cells (h.file f B).E;rw [J] at K;have ac:max (min (n:Int) (((c.fl.getD f aX).size:Int)- (off:Int))) 0=((gT c f off n:Nat):Int):=by unfold gT;omega
 have aa:gT c f off n<=n:=by unfold gT;omega
 have ae:=aSV off (gT c f off n) (by omega);have Y:=rI (off:=off) (n:=gT c f off n) (by omega);unfold aX1;generalize gT c f off n=e at *;have H:off+e<=128:=by omega
 refine aG (ob0:= []) [] Tryz.func59 rfl rfl rfl rfl ?_;refine Wx ?_;refine Lp (λi:Nat=>i<=cnt off e) (λi=> [(15,.int .i64 (i:Int)),(11,.int .i64 ((gP c f off e i).1:Int)),(12,.int .i64 ((gP c f off e i).2.1:Int)),(13,.bool (gP c f off e i).2.2)]) (λi=> []) (λi=>cnt off e-i) 0 (Nat.zero_le _) ?_ ?_
 ·exact Vr [_]
 intro i hi;have M:=aKG c f off e i (by omega);refine Wx ?_;refine iF (λb=>?_) (λb=>?_)
 ·have b:i<cnt off e:=by omega
  have hg:=aF6 (off/16) (cnt off e) i b;have R:=aL5 H b;have N:=sC b;have T:2^(off/16+i)<2^8:=zG (by omega) (by omega);have z:gP c f off e (i+1)=(bif isW c f off e (off/16+i) then(gP c f off e i).1 ||| 2^(off/16+i) else(gP c f off e i).1,bif isW c f off e (off/16+i) then(gP c f off e i).2.1 else(gP c f off e i).2.1 ||| 2^(off/16+i),(gP c f off e i).2.2&&aCQ c f off e (off/16+i)):=rfl
  generalize gP c f off e i=q at *;obtain⟨w,t,m⟩:=q;dsimp only at M z⊢
  cases D:jH c f (off/16+i) with
  |none=>
   have O:=h.f33n B D;refine Wx ?_;refine aC (λd=>?_) (λd=>?_)
   ·have d:isW c f off e (off/16+i)=true:=d;have C:aCQ c f off e (off/16+i)=true:=by unfold aCQ;rw [d,D];rfl
    rw [d,C,zct,zct,Bool.and_true] at z;cases m
    all_goals
     refine Wx ?_;refine Le (i+1) (hv:=?_);simp only [z];exact Vr [_]
   ·have d:isW c f off e (off/16+i)=false:=d;have C:aCQ c f off e (off/16+i)=false:=by unfold aCQ;rw [d,D];rfl
    rw [d,C,zcf,zcf,Bool.and_false] at z;refine Wx ?_;refine Le (i+1) (hv:=?_);simp only [z];exact Vr [_]
  |some x=>
   obtain⟨j,u⟩:=x;have O:=h.f33s B D;obtain⟨q1,q2,q3,q4,q5⟩:=cY h B D;have hu:=h.use j u q1 q2;have Z:=qW q1 q2;have ab:=h.nr;have ad:=aZK u;have G:=aZ2 u.p hu.pg _ _ N.1 true;rw [show aDQ u.p (cH (off/16+i) off e).1 (cH (off/16+i) off e).2 true=kX u off e (off/16+i) true from rfl] at G;refine Wx ?_;refine aC (λd=>?_) (λd=>?_)
   ·have d:isW c f off e (off/16+i)=true:=d;have C:aCQ c f off e (off/16+i)=dW u:=by unfold aCQ;rw [d,D];rfl
    rw [d,C,zct,zct] at z;generalize dW u=y at *;cases m
    all_goals
     refine Wx ?_;refine Le (i+1) (hv:=?_);simp only [z];exact Vr [_]
   ·have d:isW c f off e (off/16+i)=false:=d;have C:aCQ c f off e (off/16+i)=bif bif (u.rd:Int)==0 then(u.wr:Int)==0 else false then(kX u off e (off/16+i) true:Int)==0 else false:=by unfold aCQ;rw [d,D];rfl
    rw [d,C,zcf,zcf] at z;generalize kX u off e (off/16+i) true=y at *;cases m
    all_goals
     refine Wx ?_;refine Le (i+1) (hv:=?_);simp only [z];exact Vr [_]
 obtain rfl:i=cnt off e:=by omega
 exact Wz
def fbl(f:Df)(b:Nat):Df:=⟨f.dev,f.slot,f.E,f.size,b,f.ec,f.ee⟩
def aNX(b p:Nat):Nat:=b &&& (255 ^^^ 2^p)
def Dc.bl(c:Dc)(f p:Nat):Dc:=⟨c.fl.set f (fbl (c.fl.getD f aX) (aNX (c.fl.getD f aX).blocks p)),c.fr,c.zo,c.gr,c.ls,c.ck,c.pt⟩
def Dc.e0(c:Dc)(f p:Nat):Dc:=⟨c.fl.set f (hY (c.fl.getD f aX) (dZ (c.fl.getD f aX).E p (0,0))),c.fr,c.zo,c.gr,c.ls,c.ck,c.pt⟩
def zB(n:Nat):ByteArray:=⟨(List.replicate n (0:UInt8)).toArray⟩
theorem aU1(n:Nat):(zB n).size=n:=by show(List.replicate n (0:UInt8)).toArray.size=n;simp
def aEQ(c:Dc)(f off n p:Nat):Dc:=bif isW c f off n p then(match jH c f p with |some x=>c.gone x.1 x.2 0 |none=>c.e0 f p).bl f p else
 match jH c f p with |some x=>c.put x.1 (sS x.2 (uM x.2.p (cH p off n).1 (zB (cH p off n).2)))|none=>c
def vT(c:Dc)(f off n:Nat):Nat->Dc
 |0=>c
 |k+1=>aEQ (vT c f off n k) f off n (off/16+k)
theorem Ok.bl {c:Dc} (h:Ok c) {f p:Nat} (j:f<c.fl.length)(F:p<8):Ok (c.bl f p):=by
 refine h.same (zA ..) (λg q=>?_) (λg hg=>?_) rfl (λ_=>rfl) (λm v z B=>?_) rfl rfl rfl h.ls (λ_ _ C=>C) rfl h.pt
 ·show(((c.fl.set f (fbl (c.fl.getD f aX) _)).getD g aX).E q).1=_
  by_cases e:g=f
  ·subst e;rw [aE _ _ _ _ j];rfl
  ·rw [getD_set_ne _ _ _ e]
 ·show OkF ((c.fl.set f (fbl (c.fl.getD f aX) _)).getD g aX)
  by_cases e:g=f
  ·subst e;rw [aE _ _ _ _ j];have k:=h.file g hg;refine⟨k.E,k.sup,k.lo,k.size,?_,k.ec,k.ee⟩;have :=Nat.and_le_left (n:=(c.fl.getD g aX).blocks) (m:=255 ^^^ 2^p);have D:=k.blocks;show aNX _ p<256;unfold aNX;omega
  ·rw [getD_set_ne _ _ _ e];exact h.file g hg
 ·have :=h.use m v z B;exact⟨this.pg,this.holds,this.rd,this.wr⟩
theorem Ok.e0 {c:Dc} (h:Ok c) {f p:Nat} (m:f<c.fl.length)(G:p<16)(D:jH c f p=none):Ok (c.e0 f p):=by
 have J:=aOA h m D;have C:=h.file f m
 have F:∀g q,(((c.e0 f p).fl.getD g aX).E q).1=if g=f/\q=p then 0 else((c.fl.getD g aX).E q).1:=λg q=>by
  show(((c.fl.set f (hY (c.fl.getD f aX) (dZ (c.fl.getD f aX).E p (0,0)))).getD g aX).E q).1=_
  by_cases e:g=f
  ·subst e;rw [aE _ _ _ _ m,aAK]
   by_cases j:q=p
   ·subst j;rw [fR,if_pos ⟨rfl,rfl⟩]
   ·rw [eP j,if_neg (λh=>j h.2)]
  ·rw [getD_set_ne _ _ _ e,if_neg (λh=>e h.1)]
 have z:(c.e0 f p).fl.length=c.fl.length:=zA ..;refine⟨by rw [z];exact h.nf,h.nr,h.ng,h.nl,h.nk,λg hg=>?_,λn u D H=>?_,λg q hg B=>?_,h.zone,h.free,h.gr,h.ls,h.mem,h.ck,h.pt⟩
 ·show OkF ((c.fl.set f (hY (c.fl.getD f aX) (dZ (c.fl.getD f aX).E p (0,0)))).getD g aX)
  by_cases e:g=f
  ·subst e;rw [aE _ _ _ _ m];refine C.hY (C.E.set (zF _) (λ_=>rfl)) (C.sup.set G _) (λq=>?_)
   by_cases j:q=p
   ·subst j;rw [fR];show(-1000001:Int)<=0;omega
   ·rw [eP j];exact C.lo q
  ·rw [getD_set_ne _ _ _ e];exact h.file g (by rw [<-z];exact hg)
 ·have k:=h.use n u D H;refine⟨by rw [z];exact k.file,k.page,k.pg,k.ten,k.holds,k.rd,k.wr,?_⟩;rw [F,if_neg]
  ·exact k.val
  ·rintro ⟨e1,j⟩;have :=k.val;rw [e1,j] at this;omega
 ·rw [F] at B⊢
  by_cases e:g=f/\q=p
  ·rw [if_pos e] at B;omega
  ·rw [if_neg e] at B⊢;exact h.ent g q (by rw [<-z];exact hg) B
theorem bIG {c:Dc} {m:Nat} {u:Us} {v:Int} (f p:Nat)(z:u.file<c.fl.length):(((c.gone m u v).fl.getD f aX).E p).1=if f=u.file/\p=u.page then v else((c.fl.getD f aX).E p).1:=by
 show(((c.fl.set u.file (hY (c.fl.getD u.file aX) (dZ (c.fl.getD u.file aX).E u.page (v,0)))).getD f aX).E p).1=_
 by_cases e:f=u.file
 ·subst e;rw [aE _ _ _ _ z,aAK]
  by_cases j:p=u.page
  ·subst j;rw [fR,if_pos ⟨rfl,rfl⟩]
  ·rw [eP j,if_neg (λh=>j h.2)]
 ·rw [getD_set_ne _ _ _ e,if_neg (λh=>e h.1)]
theorem aZV {c:Dc} (h:Ok c) {m:Nat} {u:Us} (hm:m<c.fr.length)(z:c.fr.getD m none=some u) {v:Int} (f p:Nat)(C:f<c.fl.length)(e:¬(f=u.file/\p=u.page)):jH (c.gone m u v) f p=jH c f p:=by
 have k:=h.use m u hm z;unfold jH;rw [bIG f p k.file,if_neg e]
 cases B:decide (0< ((c.fl.getD f aX).E p).1) with
 |false=>rfl
 |true=>
  obtain⟨n,w,k1,k2,k3,k4,D⟩:=h.ent f p C (of_decide_eq_true B)
  have j:n≠m:=by
   rintro rfl;rw [z] at k3;injection k3 with k3
   subst k3;exact e ⟨k4.symm,D.symm⟩
  rw [zct,zct,k2,show(((n+1:Nat):Int)-1).toNat=n by omega];show((c.fr.set m none).getD n none).map _=_;rw [getD_set_ne _ _ _ j]
theorem bJY {c:Dc} {f p q:Nat} (m:f<c.fl.length)(j:q≠p):jH (c.e0 f p) f q=jH c f q:=by
 have e:((c.e0 f p).fl.getD f aX).E q=(c.fl.getD f aX).E q:=by show((c.fl.set f (hY (c.fl.getD f aX) (dZ (c.fl.getD f aX).E p (0,0)))).getD f aX).E q=_;rw [aE _ _ _ _ m,aAK,eP j]
 unfold jH;rw [e];rfl
theorem aZU {c:Dc} {f p q:Nat} (j:f<c.fl.length):jH (c.bl f p) f q=jH c f q:=by
 have e:((c.bl f p).fl.getD f aX).E q=(c.fl.getD f aX).E q:=by show((c.fl.set f (fbl (c.fl.getD f aX) _)).getD f aX).E q=_;rw [aE _ _ _ _ j];rfl
 unfold jH;rw [e];rfl
theorem aYC {c d:Dc} {f off n p:Nat} (h:(d.fl.getD f aX).size=(c.fl.getD f aX).size):isW d f off n p=isW c f off n p:=by unfold isW;rw [h]
theorem aOC(c:Dc)(m:Nat)(u:Us)(f:Nat):((c.put m u).fl.getD f aX).size=(c.fl.getD f aX).size:=by
 show((c.fl.set u.file (hY (c.fl.getD u.file aX) (mE (c.fl.getD u.file aX).E u))).getD f aX).size=_
 by_cases e:f=u.file
 ·subst e
  by_cases j:u.file<c.fl.length
  ·rw [aE _ _ _ _ j];rfl
  ·rw [dI _ _ (zE j)]
 ·rw [getD_set_ne _ _ _ e]
theorem aTJ {L:List Df} {g f:Nat} {x:Df} (h:x.size=(L.getD g aX).size):((L.set g x).getD f aX).size=(L.getD f aX).size:=by
 by_cases e:f=g
 ·subst e
  by_cases j:f<L.length
  ·rw [aE _ _ _ _ j,h]
  ·rw [dI _ _ (zE j)]
 ·rw [getD_set_ne _ _ _ e]
theorem aN6(d:Df)(b:Nat):(fbl d b).size=d.size:=rfl
theorem aJW(d:Df)(E:dD):(hY d E).size=d.size:=rfl
theorem aYI {c:Dc} {f off n p:Nat} (h:aCQ c f off n p=true)(j:isW c f off n p=false):∃m u,jH c f p=some (m,u)/\kX u off n p true=0:=by
 unfold aCQ at h;rw [j,zcf] at h
 cases e:jH c f p with
 |none=>rw [e] at h;cases h
 |some x=>
  rw [e] at h;dsimp only at h;refine⟨x.1,x.2,rfl,?_⟩
  cases h1:(bif (x.2.rd:Int)==0 then(x.2.wr:Int)==0 else false) with
  |false=>rw [h1] at h;cases h
  |true=>rw [h1,zct] at h;have :=zbe.1 h;omega
theorem aMR {c:Dc} {f off n:Nat} :∀ {j:Nat},(gP c f off n j).2.2=true->∀k,k<j->aCQ c f off n (off/16+k)=true
 |0,_,k,m=>by omega
 |j+1,h,k,m=>by
  rw [gP] at h;dsimp only at h;rw [Bool.and_eq_true] at h
  by_cases e:k=j
  ·subst e;exact h.2
  ·exact aMR h.1 k (by omega)
theorem bEP {c:Dc} (h:Ok c) {f off n p:Nat} (j:f<c.fl.length)(B:p<8)(E:(cH p off n).1+(cH p off n).2<=16):Ok (aEQ c f off n p)/\(aEQ c f off n p).fl.length=c.fl.length/\((aEQ c f off n p).fl.getD f aX).size=(c.fl.getD f aX).size/\∀q,q≠p->jH (aEQ c f off n p) f q=jH c f q:=by
 unfold aEQ
 cases isW c f off n p with
 |true=>
  rw [zct]
  cases D:jH c f p with
  |none=>
   dsimp only;have z:(c.e0 f p).fl.length=c.fl.length:=zA ..;refine⟨(h.e0 j (by omega) D).bl (by rw [z];exact j) B,by show(List.set _ _ _).length=_;rw [zA];exact z,?_,λq C=>?_⟩
   ·exact(aTJ (aN6 _ _)).trans (aTJ (aJW _ _))
   ·show jH ((c.e0 f p).bl f p) f q=_;rw [aZU (by rw [z];exact j),bJY j C]
  |some x=>
   obtain⟨m,u⟩:=x;obtain⟨q1,q2,H,F,J⟩:=cY h j D;dsimp only;have z:(c.gone m u 0).fl.length=c.fl.length:=zA ..;refine⟨(h.gone q1 q2 (Int.le_refl 0) (by omega)).bl (by rw [z];exact j) B,by show(List.set _ _ _).length=_;rw [zA];exact z,?_,λq C=>?_⟩
   ·exact(aTJ (aN6 _ _)).trans (aTJ (aJW _ _))
   ·show jH ((c.gone m u 0).bl f p) f q=_;rw [aZU (by rw [z];exact j),aZV h q1 q2 f q j (λe=>C (e.2.trans F))]
 |false=>
  rw [zcf]
  cases D:jH c f p with
  |none=>exact⟨h,rfl,rfl,λ_ _=>rfl⟩
  |some x=> obtain⟨m,u⟩:=x;obtain⟨q1,q2,H,F,J⟩:=cY h j D;have G:=vJ (h.use m u q1 q2).pg (off:=(cH p off n).1) (s:=zB (cH p off n).2) (by rw [aU1];exact E);refine⟨h.put' q1 q2 G,vC _ _ _,aOC _ _ _ _,λq C=>?_⟩;show jH (c.put m _) f q=_;rw [aL8 h q1 q2 f q j,if_neg (λe=>C (e.2.trans F))]
theorem sJ {c:Dc} (h:Ok c) {f off n:Nat} (j:f<c.fl.length)(e:off+n<=128):∀k,k<=cnt off n->Ok (vT c f off n k)/\(vT c f off n k).fl.length=c.fl.length/\((vT c f off n k).fl.getD f aX).size=(c.fl.getD f aX).size/\∀i,k<=i->jH (vT c f off n k) f (off/16+i)=jH c f (off/16+i)
 |0,_=>⟨h,rfl,rfl,λ_ _=>rfl⟩
 |k+1,F=>by obtain⟨h1,h2,m,h4⟩:=sJ h j e k (by omega);have hc:=rI e;obtain⟨z,B,C,D⟩:=bEP h1 (off:=off) (n:=n) (p:=off/16+k) (by rw [h2];exact j) (by omega) (sC (show k<cnt off n by omega)).1;exact⟨z,B.trans h2,C.trans m,λi E=>(D _ (by omega)).trans (h4 i (by omega))⟩
theorem aMQ(c:Dc)(f off n:Nat):∀k p,((gP c f off n k).1.testBit p=(decide (off/16<=p/\p<off/16+k)&&isW c f off n p))/\((gP c f off n k).2.1.testBit p=(decide (off/16<=p/\p<off/16+k)&& !isW c f off n p))
 |0,p=>by rw [zdf (show ¬(off/16<=p/\p<off/16+0) by omega)];exact⟨zC p,zC p⟩
 |k+1,p=>by
  obtain⟨h1,h2⟩:=aMQ c f off n k p;rw [gP];dsimp only;have m:decide (off/16<=p/\p<off/16+(k+1))=(decide (off/16<=p/\p<off/16+k)||decide (off/16+k=p)):=by rw [Bool.eq_iff_iff];simp only [Bool.or_eq_true,decide_eq_true_eq];omega
  rw [m]
  by_cases e:off/16+k=p
  ·subst e;rw [zdf (show ¬(off/16<=off/16+k/\off/16+k<off/16+k) by omega)] at h1 h2⊢
   cases z:isW c f off n (off/16+k) with
   |true=>simp [zD,h1,h2]
   |false=>simp [zD,h1,h2]
  ·rw [zdf e,zI];have j:(2^(off/16+k)).testBit p=false:=by rw [zH];exact zdf e
   cases isW c f off n (off/16+k) with
   |true=>exact⟨by rw [zct,zD,j,zI,h1],by rw [zct];exact h2⟩
   |false=>exact⟨by rw [zcf];exact h1,by rw [zcf,zD,j,zI,h2]⟩
theorem bBV {w p:Nat} :(((w &&& 2^p:Nat):Int) != 0)=w.testBit p:=by
 cases h:w.testBit p with
 |true=>
  have :(w &&& 2^p).testBit p=true:=by rw [Nat.testBit_and,h,Nat.testBit_two_pow_self];rfl
  refine bne_iff_ne.2 λe=>?_;rw [show w &&& 2^p=0 by omega,zC] at this;cases this
 |false=>
  have :w &&& 2^p=0:=by
   apply Nat.eq_of_testBit_eq;intro i;rw [Nat.testBit_and,zH,zC]
   by_cases e:p=i
   ·subst e;rw [h];rfl
   ·rw [zdf e,Bool.and_false]
  rw [this];rfl
end Go.Proofs.YtmhapcbjjpadnaaGreat
