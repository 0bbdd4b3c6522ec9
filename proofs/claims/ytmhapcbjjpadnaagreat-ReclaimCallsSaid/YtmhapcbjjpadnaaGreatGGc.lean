/- Caches. -/
import Derived.Test.YtmhapcbjjpadnaaGreatGFc
set_option linter.all false
set_option maxHeartbeats 8000000
set_option maxRecDepth 40000
open Bool renaming or_false→zI
open List renaming length_set→zA
open Nat renaming zero_testBit→zC,testBit_or→zD,le_of_not_lt→zE,zero_lt_succ→zF,pow_lt_pow_right→zG,testBit_two_pow→zH,or_lt_two_pow→zJ,le_refl→zK
namespace Go.Proofs.YtmhapcbjjpadnaaGreat
open Go Go.Sk Go.RowKit
theorem bR8(c:Dc)(m:Nat)(u:Us)(f p:Nat):(((c.put m u).fl.getD f aZ).E p).1=((c.fl.getD f aZ).E p).1:=by
 show(((c.fl.set u.file (iG (c.fl.getD u.file aZ) (mE (c.fl.getD u.file aZ).E u))).getD f aZ).E p).1=_
 by_cases e:f=u.file
 ·subst e
  by_cases j:u.file<c.fl.length
  ·rw [aH _ _ _ _ j,aAZ,aR4]
  ·rw [eG _ _ (zE j)]
 ·rw [getD_set_ne _ _ _ e]
@[simp] theorem vV (c:Dc) (m:Nat) (u:Us):(c.put m u).fl.length=c.fl.length:=zA ..
@[simp] theorem vW (c:Dc) (m:Nat) (u:Us):(c.put m u).fr.length=c.fr.length:=zA ..
theorem aLV {c:Dc} (h:Ok c) {m:Nat} {u u':Us} (hm:m<c.fr.length)(z:c.fr.getD m none=some u)(f p:Nat)(C:f<c.fl.length):jP (c.put m u') f p=if f=u.file/\p=u.page then some (m,u') else jP c f p:=by
 have k:=h.use m u hm z;unfold jP;rw [bR8]
 have e:∀j,(c.put m u').fr.getD j none=if j=m then some u' else c.fr.getD j none:=λj=>by
  show(c.fr.set m (some u')).getD j none=_
  by_cases e:j=m
  ·subst e;rw [aH _ _ _ _ hm,if_pos rfl]
  ·rw [getD_set_ne _ _ _ e,if_neg e]
 rw [e]
 by_cases e1:f=u.file/\p=u.page
 ·obtain⟨rfl,rfl⟩:=e1;rw [k.val,zdt (by omega),zct,show(((m+1:Nat):Int)-1).toNat=m by omega,if_pos rfl,if_pos (And.intro rfl rfl)];rfl
 ·rw [if_neg e1]
  cases B:decide (0< ((c.fl.getD f aZ).E p).1) with
  |false=>rfl
  |true=>
   obtain⟨n,w,k1,k2,k3,k4,D⟩:=h.ent f p C (of_decide_eq_true B);rw [k2,show(((n+1:Nat):Int)-1).toNat=n by omega,if_neg];rintro rfl;rw [z] at k3;injection k3 with k3
   subst k3;exact e1 ⟨k4.symm,D.symm⟩
theorem aKO {c:Dc} {f off n:Nat} {w:Bool} :∀ {j:Nat},lQ c f off n w j=some []->∀k,k<j->∀m u,jP c f (off/16+k)=some (m,u)->lI u off n (off/16+k) w=0
 |0,_,k,D=>by omega
 |j+1,h,k,D=>by
  intro m u z;rw [lQ] at h;split at h
  ·rename_i E F u' C h2;have h:=zsi h
   cases B:(lI u' off n (off/16+j) w==0) with
   |false=>rw [B,zcf] at h;simp at h
   |true=>
    rw [B,zct] at h;subst h
    by_cases e:k=j
    ·subst e;rw [h2] at z;obtain⟨rfl,rfl⟩:=Prod.mk.inj (zsi z);exact zbe.1 B
    ·exact aKO C k (by omega) m u z
  ·cases h
theorem aQ1 {b s:ByteArray} {off:Nat} (h:off+s.size<=b.size):(aIO b off s).size=b.size:=by unfold aIO;rw [aGG,aGG,qK,qK];omega
theorem aA1 {p:Pg} (h:fQ p) {off:Nat} {s:ByteArray} (m:off+s.size<=16):fQ (vB p off s):=by
 have z:tch off s.size<4:=(aG2 off s.size (zK 2)).1;have e:∀v d t:Fin 4,mW false d.val v.val=0->(v.val ||| t.val)<4/\(d.val ||| t.val)<4/\mW false (d.val ||| t.val) (v.val ||| t.val)=0:=by decide
 obtain⟨f,h2,j⟩:=e ⟨p.v,h.v⟩ ⟨p.d,h.d⟩ ⟨tch off s.size,z⟩ h.sub;exact⟨by show(aIO p.b off s).size=16;rw [aQ1 (by rw [h.size];exact m),h.size],f,h2,j⟩
def tZ(p off n:Nat):Nat:=p*16+(cM p off n).1-off
def wrL(c:Dc)(f off:Nat)(s:ByteArray):Nat->Dc
 |0=>c
 |k+1=>match jP (wrL c f off s k) f (off/16+k) with
  |some (m,u)=>((wrL c f off s k).put m (sY u (vB u.p (cM (off/16+k) off s.size).1 (s.extract (tZ (off/16+k) off s.size) (tZ (off/16+k) off s.size+(cM (off/16+k) off s.size).2))))).acc m u.ten
  |none=>wrL c f off s k
theorem aYO {off n k:Nat} (e:k<cnt off n):tZ (off/16+k) off n+(cM (off/16+k) off n).2<=n/\off<=(off/16+k)*16+(cM (off/16+k) off n).1:=by have :=sJ e;unfold tZ;omega
theorem aUY {s:ByteArray} {off k:Nat} (e:k<cnt off s.size):(s.extract (tZ (off/16+k) off s.size) (tZ (off/16+k) off s.size+(cM (off/16+k) off s.size).2)).size=(cM (off/16+k) off s.size).2:=by have :=aYO e;rw [qK];omega
theorem Ok.put' {c:Dc} (h:Ok c) {n:Nat} {u:Us} {p:Pg} (e:n<c.fr.length)(f:c.fr.getD n none=some u)(j:fQ p):Ok (c.put n (sY u p)):=
 have k:=h.use n u e f
 h.put e f rfl j k.holds k.rd k.wr
theorem aE0 {c:Dc} (h:Ok c) {f off:Nat} {s:ByteArray} (B:f<c.fl.length)(D:off+s.size<=128):∀k,k<=cnt off s.size->Ok (wrL c f off s k)/\(wrL c f off s k).fl.length=c.fl.length/\∀i,k<=i->jP (wrL c f off s k) f (off/16+i)=jP c f (off/16+i)
 |0,_=>⟨h,rfl,λ_ _=>rfl⟩
 |k+1,C=>by
  obtain⟨e,h2,z⟩:=aE0 h B D k (by omega);rw [wrL];split
  ·rename_i m u F;have j:f< (wrL c f off s k).fl.length:=by rw [h2];exact B
   obtain⟨q1,q2,K,J,M⟩:=dH e j F;have G:=e.use m u q1 q2;have H:=aA1 G.pg (off:=(cM (off/16+k) off s.size).1) (s:=s.extract (tZ (off/16+k) off s.size) (tZ (off/16+k) off s.size+(cM (off/16+k) off s.size).2)) (by rw [aUY C];exact(sJ C).1);refine⟨(e.put' q1 q2 H).acc _ _,by show((wrL c f off s k).put _ _).fl.length=_;rw [vV];exact h2,λi E=>?_⟩;show jP ((wrL c f off s k).put _ _) f (off/16+i)=_;rw [aLV e q1 q2 f _ j,if_neg (by rw [J];omega),z i (by omega)]
  ·exact⟨e,h2,λi E=>z i (by omega)⟩
theorem bOX(c:Dc)(h:Ok c)(f off:Nat)(s:ByteArray)(J:f<c.fl.length)(F:off+s.size<=128)(H:lQ c f off s.size true (cnt off s.size)=some []):aM Tryz.prog 169 [] [.agg c.c,.int .i64 (f:Int),.int .i64 (off:Int),.str s] (.agg (wrL c f off s (cnt off s.size)).c) []:=by
 have ac:=aTQ off s.size F;have R:=rQ F;refine aE (ob0:= []) [] Tryz.func169 rfl rfl rfl rfl ?_;refine Wx ?_;refine Lp (λi:Nat=>i<=cnt off s.size) (λi=> [(10,.int .i64 (i:Int))]) (λi=> [(0,.box (wrL c f off s i).c)]) (λi=>cnt off s.size-i) 0 (Nat.zero_le _) ?_ ?_
 ·exact Vr [_,_]
 intro i Z;refine Wx ?_;refine gE (λb=>?_) (λb=>?_)
 ·have b:i<cnt off s.size:=by omega
  have hg:=aFW (off/16) (cnt off s.size) i b;have M:=aLS (show off+s.size<=128 by omega) b;obtain⟨m,u,B⟩:=aKN H i b;obtain⟨j,o2,o3⟩:=aE0 h J F i Z;have E:=aKO H i b m u B;rw [<-o3 i (zK i)] at B;have G:wrL c f off s (i+1)=((wrL c f off s i).put m (sY u (vB u.p (cM (off/16+i) off s.size).1 (s.extract (tZ (off/16+i) off s.size) (tZ (off/16+i) off s.size+(cM (off/16+i) off s.size).2))))).acc m u.ten:=by rw [wrL,B]
  have W:=aYO b;have T:tZ (off/16+i) off s.size=(off/16+i)*16+(cM (off/16+i) off s.size).1-off:=rfl;have e:=aUY (s:=s) (off:=off) b;have C:=sJ b;generalize wrL c f off s i=d at *;have z:f<d.fl.length:=by rw [o2];exact J
  have ab:=j.f33s z B;obtain⟨q1,q2,q3,q4,q5⟩:=dH j z B;have D:=j.use m u q1 q2;have Y:=qA q1 q2;have aa:=j.nr;unfold lI at E;rw [<-e] at E;have Q:=bH8 u.p D.pg _ _ (by rw [e];exact C.1) E;rw [e] at E;have K:=aA1 D.pg (off:=(cM (off/16+i) off s.size).1) (s:=s.extract (tZ (off/16+i) off s.size) (tZ (off/16+i) off s.size+(cM (off/16+i) off s.size).2)) (by rw [e];exact C.1)
  have O:=j.p155 (u':=sY u (vB u.p (cM (off/16+i) off s.size).1 (s.extract (tZ (off/16+i) off s.size) (tZ (off/16+i) off s.size+(cM (off/16+i) off s.size).2)))) q1 q2 rfl K D.rd D.wr;have o4:=j.put' q1 q2 K;have N:=o4.a127 (n:=m) (u:=sY u (vB u.p (cM (off/16+i) off s.size).1 (s.extract (tZ (off/16+i) off s.size) (tZ (off/16+i) off s.size+(cM (off/16+i) off s.size).2)))) (by rw [vW];exact q1) (aH _ _ _ _ q1);refine Wx ?_;refine Le (i+1) (hv:=?_);simp only [G];exact Vr [_,_]
 obtain rfl:i=cnt off s.size:=by omega
 exact Wz
def fsz(f:Df)(n:Nat):Df:=⟨f.dev,f.slot,f.E,n,f.blocks,f.ec,f.ee⟩
def Dc.sz(c:Dc)(f n:Nat):Dc:=⟨c.fl.set f (fsz (c.fl.getD f aZ) n),c.fr,c.zo,c.gr,c.ls,c.ck,c.pt⟩
theorem Ok.sz {c:Dc} (h:Ok c) {f n:Nat} (j:f<c.fl.length)(B:n<=128):Ok (c.sz f n):=by
 refine h.same (zA ..) (λg p=>?_) (λg hg=>?_) rfl (λ_=>rfl) (λm v z C=>?_) rfl rfl rfl h.ls (λ_ _ D=>D) rfl h.pt
 ·show(((c.fl.set f (fsz (c.fl.getD f aZ) n)).getD g aZ).E p).1=_
  by_cases e:g=f
  ·subst e;rw [aH _ _ _ _ j];rfl
  ·rw [getD_set_ne _ _ _ e]
 ·show OkF ((c.fl.set f (fsz (c.fl.getD f aZ) n)).getD g aZ)
  by_cases e:g=f
  ·subst e;rw [aH _ _ _ _ j];have k:=h.file g hg;exact⟨k.E,k.sup,k.lo,B,k.blocks,k.ec,k.ee⟩
  ·rw [getD_set_ne _ _ _ e];exact h.file g hg
 ·have :=h.use m v z C;exact⟨this.pg,this.holds,this.rd,this.wr⟩
def aCK(c:Dc)(f off:Nat)(s:ByteArray):Dc×Int:=bif s.size==0 then(c,0) else
 match lQ c f off s.size true (cnt off s.size),(dL c f ((off+s.size:Nat):Int)).2 with
 |none,_=>(c,4)
 |some L,g=>bif g==4 then(c,4) else bif L.isEmpty&&g==0 then((wrL (dL c f ((off+s.size:Nat):Int)).1 f off s (cnt off s.size)).sz f (max ((wrL (dL c f ((off+s.size:Nat):Int)).1 f off s (cnt off s.size)).fl.getD f aZ).size (off+s.size)),0) else(c,7)
theorem vY {c:Dc} (h:Ok c) {f:Nat} (e:Int)(j:f<c.fl.length):Ok (dL c f e).1/\(dL c f e).1.fl.length=c.fl.length/\((dL c f e).2=0\/(dL c f e).2=4\/(dL c f e).2=7)/\((dL c f e).2≠0->(dL c f e).1=c):=by
 unfold dL;split
 ·exact⟨h,rfl,.inl rfl,λ_=>rfl⟩
 ·rename_i p s B;obtain⟨H,J,D,K,M⟩:=aB0 B (h.file f j).size;split
  ·exact⟨h,rfl,.inr (.inl rfl),λ_=>rfl⟩
  ·rename_i m u z;obtain⟨q1,q2,E,F,G⟩:=dH h j z;have C:=h.use m u q1 q2
   cases(mW false s u.p.v==0) with
   |true=>exact⟨h.put' q1 q2 (aCE C.pg D),vV _ _ _,.inl rfl,λk=>absurd rfl k⟩
   |false=>exact⟨h,rfl,.inr (.inr rfl),λ_=>rfl⟩
theorem bDX {c:Dc} (h:Ok c) {f:Nat} (e:Int)(j:f<c.fl.length)(p:Nat):(jP (dL c f e).1 f p).map (λx=>(x.1,x.2.p.v))=(jP c f p).map (λx=>(x.1,x.2.p.v)):=by
 unfold dL;split
 ·rfl
 ·rename_i D s C;split
  ·rfl
  ·rename_i m u z;obtain⟨q1,q2,E,B,F⟩:=dH h j z
   cases(mW false s u.p.v==0) with
   |false=>rfl
   |true=>
    show(jP (c.put m (sY u (aES u.p s))) f p).map _=_;rw [aLV h q1 q2 f p j]
    by_cases e1:f=u.file/\p=u.page
    ·rw [if_pos e1,e1.2,B,z];rfl
    ·rw [if_neg e1]
theorem bBM {c d:Dc} {f off n:Nat} {w:Bool} (h:∀p,(jP d f p).map (λx=>(x.1,x.2.p.v))=(jP c f p).map (λx=>(x.1,x.2.p.v))):∀k,lQ d f off n w k=lQ c f off n w k
 |0=>rfl
 |k+1=>by
  have j:=h (off/16+k);rw [lQ,lQ,bBM h k]
  cases z:jP d f (off/16+k) with
  |none=>
   rw [z] at j
   cases h2:jP c f (off/16+k) with
   |none=>rfl
   |some y=>rw [h2] at j;cases j
  |some x=>
   rw [z] at j
   cases h2:jP c f (off/16+k) with
   |none=>rw [h2] at j;cases j
   |some y=>
    rw [h2] at j;obtain⟨m,u⟩:=x;obtain⟨D,C⟩:=y;simp only [Option.map_some,zse,Prod.mk.injEq] at j;obtain⟨rfl,B⟩:=j
    cases lQ c f off n w k with
    |none=>rfl
    |some L=>
     have e:lI u off n (off/16+k) w=lI C off n (off/16+k) w:=by unfold lI aED;rw [B]
     dsimp only;rw [e]
theorem bHW {L:List Df} {f n:Nat} (h:f<L.length)(j:bI (L.getD f aZ).E):(aX L).set f (aS 15 (L.getD f aZ).c 6 [.int .i64 (n:Int)])=aX (L.set f (fsz (L.getD f aZ) n)):=by
 rw [aX,aX,List.map_set];obtain⟨k0,k1,k2,k3,e,-⟩:=Df.cells j;obtain⟨C,q1,q2,D,z,B⟩:=Df.cells (f:=fsz (L.getD f aZ) n) j;obtain⟨k0,k1,k2,k3,e,m⟩:=Df.cells j
 congr 1
 unfold Df.c fsz;dsimp only;rw [m];rfl
theorem bT9(c:Dc)(h:Ok c)(f off:Nat)(s:ByteArray)(C:f<c.fl.length)(G:off+s.size<=128):aM Tryz.prog 57 [] [.agg c.c,.int .i64 (f:Int),.int .i64 (off:Int),.str s] (.tup [.agg (aCK c f off s).1.c,.int .i64 (aCK c f off s).2]) []:=by
 have Z:=aHQ c f C;have J:=aBV (off:Int) (s.size:Int);rw [aCS G] at J;have B:=bT8 c h f off s.size C G true;have aa:=bGQ c h f ((off+s.size:Nat):Int) C;obtain⟨o1,R,o3,o4⟩:=vY h ((off+s.size:Nat):Int) C;have O:=λk=>bBM (c:=c) (off:=off) (n:=s.size) (w:=true) (bDX h ((off+s.size:Nat):Int) C) k;generalize j:aCK c f off s=q;unfold aCK at j
 by_cases Y:s.size=0
 ·rw [zbe.2 Y,zct] at j;subst j;refine aE (ob0:= []) [] Tryz.func57 rfl rfl rfl rfl ?_;exact Wz
 rw [zbn.2 Y,zcf] at j;generalize dL c f ((off+s.size:Nat):Int)=x at *;obtain⟨d,g⟩:=x;dsimp only at *
 cases F:lQ c f off s.size true (cnt off s.size) with
 |none=> rw [F] at j B;dsimp only [bF2] at j B;subst j;refine aE (ob0:= []) [] Tryz.func57 rfl rfl rfl rfl ?_;exact Wz
 |some L=>
  rw [F] at j B;dsimp only [bF2] at j B;have N:=aIK F;have ac:=rQ G
  by_cases W:g=4
  ·subst W;subst j;refine aE (ob0:= []) [] Tryz.func57 rfl rfl rfl rfl ?_;exact Wz
  rw [zbn.2 W,zcf] at j
  cases L with
  |cons a L=> subst j;simp only [List.length_cons] at N;refine aE (ob0:= []) [] Tryz.func57 rfl rfl rfl rfl ?_;exact Wz
  |nil=>
   by_cases g0:g=0
   ·subst g0;subst j;rw [<-O] at F;have ab:=bOX d o1 f off s (by rw [R];exact C) G F;obtain⟨T,w2,w3⟩:=aE0 o1 (s:=s) (off:=off) (show f<d.fl.length by rw [R];exact C) G _ (zK _);generalize wrL d f off s (cnt off s.size)=e at *;have D:f<e.fl.length:=by rw [w2,R];exact C
    have ad:=aIV e T.sm;have M:=aAA D;have Q:=T.file f D;have H:=bHW (n:=max (e.fl.getD f aZ).size (off+s.size)) D Q.E;obtain⟨k0,k1,k2,k3,K,-⟩:=Df.cells Q.E;rw [K] at M H;have hs:=Q.size;unfold Dc.sz;simp only [Dc.c,Bool.cond_true_left,zct,List.isEmpty_nil,Bool.true_and,beq_self_eq_true];rw [<-H];generalize(e.fl.getD f aZ).size=z at *;have m:=T.sm;have h1:=m.fl;have h2:=m.fr;have h3:=m.gr;have h4:=m.ls;have h5:=m.ck
    refine aE (ob0:= []) [] Tryz.func57 rfl rfl rfl rfl ?_;exact Wz
   ·rw [show(List.isEmpty ([]:List (Nat×Nat))&&g==0)=false from by rw [zbn.2 g0];rfl] at j;subst j;refine aE (ob0:= []) [] Tryz.func57 rfl rfl rfl rfl ?_;exact Wz
def isW(c:Dc)(f off n p:Nat):Bool:=bif ((cM p off n).1:Int)==0 then((p*16+(cM p off n).2:Nat):Int)==((min (c.fl.getD f aZ).size ((p+1)*16):Nat):Int) else false
def aDD(c:Dc)(f off n p:Nat):Bool:=bif isW c f off n p then(match jP c f p with |none=>true |some x=>iJ x.2) else(match jP c f p with |none=>false |some x=>bif bif (x.2.rd:Int)==0 then(x.2.wr:Int)==0 else false then(lI x.2 off n p true:Int)==0 else false)
def gY(c:Dc)(f off n:Nat):Nat->Nat×Nat×Bool
 |0=>(0,0,true)
 |k+1=>(bif isW c f off n (off/16+k) then(gY c f off n k).1 ||| 2^(off/16+k) else(gY c f off n k).1,bif isW c f off n (off/16+k) then(gY c f off n k).2.1 else(gY c f off n k).2.1 ||| 2^(off/16+k),(gY c f off n k).2.2&&aDD c f off n (off/16+k))
theorem aL3(c:Dc)(f off n:Nat):∀k,off/16+k<=8->(gY c f off n k).1<256/\(gY c f off n k).2.1<256
 |0,_=>⟨zF _,zF _⟩
 |k+1,h=>by
  obtain⟨e,h2⟩:=aL3 c f off n k (by omega);have j:2^(off/16+k)<2^8:=zG (by omega) (by omega);have h4:=zJ (n:=8) e j;have h5:=zJ (n:=8) h2 j;rw [gY];dsimp only;cases isW c f off n (off/16+k)
  ·exact⟨e,h5⟩
  ·exact⟨h4,h2⟩
def aXZ(x:Nat×Nat×Bool):V:=.tup [.int .i64 (x.1:Int),.int .i64 (x.2.1:Int),.bool x.2.2]
theorem bKN(c:Dc)(h:Ok c)(f off n:Nat)(B:f<c.fl.length)(W:off+n<=128):aM Tryz.prog 59 [] [.agg c.c,.int .i64 (f:Int),.int .i64 (off:Int),.int .i64 (n:Int)] (aXZ (gY c f off (iA c f off n) (cnt off (iA c f off n)))) []:=by
 have Q:=aHQ c f B;have F:=aBV (off:Int) (n:Int);rw [aCS W] at F;have K:=aAA B;have hs:=(h.file f B).size;obtain⟨k0,k1,k2,k3,J,-⟩:=Df.cells (h.file f B).E;rw [J] at K;have ac:max (min (n:Int) (((c.fl.getD f aZ).size:Int)- (off:Int))) 0=((iA c f off n:Nat):Int):=by unfold iA;omega
 have aa:iA c f off n<=n:=by unfold iA;omega
 have ae:=aTQ off (iA c f off n) (by omega);have Y:=rQ (off:=off) (n:=iA c f off n) (by omega);unfold aXZ;generalize iA c f off n=e at *;have H:off+e<=128:=by omega
 refine aE (ob0:= []) [] Tryz.func59 rfl rfl rfl rfl ?_;refine Wx ?_;refine Lp (λi:Nat=>i<=cnt off e) (λi=> [(15,.int .i64 (i:Int)),(11,.int .i64 ((gY c f off e i).1:Int)),(12,.int .i64 ((gY c f off e i).2.1:Int)),(13,.bool (gY c f off e i).2.2)]) (λi=> []) (λi=>cnt off e-i) 0 (Nat.zero_le _) ?_ ?_
 ·exact Vr [_]
 intro i hi;have M:=aL3 c f off e i (by omega);refine Wx ?_;refine gE (λb=>?_) (λb=>?_)
 ·have b:i<cnt off e:=by omega
  have hg:=aFW (off/16) (cnt off e) i b;have R:=aLS H b;have N:=sJ b;have T:2^(off/16+i)<2^8:=zG (by omega) (by omega);have z:gY c f off e (i+1)=(bif isW c f off e (off/16+i) then(gY c f off e i).1 ||| 2^(off/16+i) else(gY c f off e i).1,bif isW c f off e (off/16+i) then(gY c f off e i).2.1 else(gY c f off e i).2.1 ||| 2^(off/16+i),(gY c f off e i).2.2&&aDD c f off e (off/16+i)):=rfl
  generalize gY c f off e i=q at *;obtain⟨w,t,m⟩:=q;dsimp only at M z⊢
  cases D:jP c f (off/16+i) with
  |none=>
   have O:=h.f33n B D;refine Wx ?_;refine aC (λd=>?_) (λd=>?_)
   ·have d:isW c f off e (off/16+i)=true:=d;have C:aDD c f off e (off/16+i)=true:=by unfold aDD;rw [d,D];rfl
    rw [d,C,zct,zct,Bool.and_true] at z;cases m
    all_goals
     refine Wx ?_;refine Le (i+1) (hv:=?_);simp only [z];exact Vr [_]
   ·have d:isW c f off e (off/16+i)=false:=d;have C:aDD c f off e (off/16+i)=false:=by unfold aDD;rw [d,D];rfl
    rw [d,C,zcf,zcf,Bool.and_false] at z;refine Wx ?_;refine Le (i+1) (hv:=?_);simp only [z];exact Vr [_]
  |some x=>
   obtain⟨j,u⟩:=x;have O:=h.f33s B D;obtain⟨q1,q2,q3,q4,q5⟩:=dH h B D;have hu:=h.use j u q1 q2;have Z:=qA q1 q2;have ab:=h.nr;have ad:=bDR u;have G:=aZW u.p hu.pg _ _ N.1 true;rw [show aED u.p (cM (off/16+i) off e).1 (cM (off/16+i) off e).2 true=lI u off e (off/16+i) true from rfl] at G;refine Wx ?_;refine aC (λd=>?_) (λd=>?_)
   ·have d:isW c f off e (off/16+i)=true:=d;have C:aDD c f off e (off/16+i)=iJ u:=by unfold aDD;rw [d,D];rfl
    rw [d,C,zct,zct] at z;generalize iJ u=y at *;cases m
    all_goals
     refine Wx ?_;refine Le (i+1) (hv:=?_);simp only [z];exact Vr [_]
   ·have d:isW c f off e (off/16+i)=false:=d;have C:aDD c f off e (off/16+i)=bif bif (u.rd:Int)==0 then(u.wr:Int)==0 else false then(lI u off e (off/16+i) true:Int)==0 else false:=by unfold aDD;rw [d,D];rfl
    rw [d,C,zcf,zcf] at z;generalize lI u off e (off/16+i) true=y at *;cases m
    all_goals
     refine Wx ?_;refine Le (i+1) (hv:=?_);simp only [z];exact Vr [_]
 obtain rfl:i=cnt off e:=by omega
 exact Wz
def fbl(f:Df)(b:Nat):Df:=⟨f.dev,f.slot,f.E,f.size,b,f.ec,f.ee⟩
def aOP(b p:Nat):Nat:=b &&& (255 ^^^ 2^p)
def Dc.bl(c:Dc)(f p:Nat):Dc:=⟨c.fl.set f (fbl (c.fl.getD f aZ) (aOP (c.fl.getD f aZ).blocks p)),c.fr,c.zo,c.gr,c.ls,c.ck,c.pt⟩
def Dc.e0(c:Dc)(f p:Nat):Dc:=⟨c.fl.set f (iG (c.fl.getD f aZ) (eH (c.fl.getD f aZ).E p (0,0))),c.fr,c.zo,c.gr,c.ls,c.ck,c.pt⟩
def zB(n:Nat):ByteArray:=⟨(List.replicate n (0:UInt8)).toArray⟩
theorem aV0(n:Nat):(zB n).size=n:=by show(List.replicate n (0:UInt8)).toArray.size=n;simp
def aFF(c:Dc)(f off n p:Nat):Dc:=bif isW c f off n p then(match jP c f p with |some x=>c.gone x.1 x.2 0 |none=>c.e0 f p).bl f p else
 match jP c f p with |some x=>c.put x.1 (sY x.2 (vB x.2.p (cM p off n).1 (zB (cM p off n).2)))|none=>c
def aAB(c:Dc)(f off n:Nat):Nat->Dc
 |0=>c
 |k+1=>aFF (aAB c f off n k) f off n (off/16+k)
theorem Ok.bl {c:Dc} (h:Ok c) {f p:Nat} (j:f<c.fl.length)(F:p<8):Ok (c.bl f p):=by
 refine h.same (zA ..) (λg q=>?_) (λg hg=>?_) rfl (λ_=>rfl) (λm v z B=>?_) rfl rfl rfl h.ls (λ_ _ C=>C) rfl h.pt
 ·show(((c.fl.set f (fbl (c.fl.getD f aZ) _)).getD g aZ).E q).1=_
  by_cases e:g=f
  ·subst e;rw [aH _ _ _ _ j];rfl
  ·rw [getD_set_ne _ _ _ e]
 ·show OkF ((c.fl.set f (fbl (c.fl.getD f aZ) _)).getD g aZ)
  by_cases e:g=f
  ·subst e;rw [aH _ _ _ _ j];have k:=h.file g hg;refine⟨k.E,k.sup,k.lo,k.size,?_,k.ec,k.ee⟩;have :=Nat.and_le_left (n:=(c.fl.getD g aZ).blocks) (m:=255 ^^^ 2^p);have D:=k.blocks;show aOP _ p<256;unfold aOP;omega
  ·rw [getD_set_ne _ _ _ e];exact h.file g hg
 ·have :=h.use m v z B;exact⟨this.pg,this.holds,this.rd,this.wr⟩
theorem Ok.e0 {c:Dc} (h:Ok c) {f p:Nat} (m:f<c.fl.length)(G:p<16)(D:jP c f p=none):Ok (c.e0 f p):=by
 have J:=aP4 h m D;have C:=h.file f m
 have F:∀g q,(((c.e0 f p).fl.getD g aZ).E q).1=if g=f/\q=p then 0 else((c.fl.getD g aZ).E q).1:=λg q=>by
  show(((c.fl.set f (iG (c.fl.getD f aZ) (eH (c.fl.getD f aZ).E p (0,0)))).getD g aZ).E q).1=_
  by_cases e:g=f
  ·subst e;rw [aH _ _ _ _ m,aAZ]
   by_cases j:q=p
   ·subst j;rw [fV,if_pos ⟨rfl,rfl⟩]
   ·rw [eZ j,if_neg (λh=>j h.2)]
  ·rw [getD_set_ne _ _ _ e,if_neg (λh=>e h.1)]
 have z:(c.e0 f p).fl.length=c.fl.length:=zA ..;refine⟨by rw [z];exact h.nf,h.nr,h.ng,h.nl,h.nk,λg hg=>?_,λn u D H=>?_,λg q hg B=>?_,h.zone,h.free,h.gr,h.ls,h.mem,h.ck,h.pt⟩
 ·show OkF ((c.fl.set f (iG (c.fl.getD f aZ) (eH (c.fl.getD f aZ).E p (0,0)))).getD g aZ)
  by_cases e:g=f
  ·subst e;rw [aH _ _ _ _ m];refine C.iG (C.E.set (zF _) (λ_=>rfl)) (C.sup.set G _) (λq=>?_)
   by_cases j:q=p
   ·subst j;rw [fV];show(-1000001:Int)<=0;omega
   ·rw [eZ j];exact C.lo q
  ·rw [getD_set_ne _ _ _ e];exact h.file g (by rw [<-z];exact hg)
 ·have k:=h.use n u D H;refine⟨by rw [z];exact k.file,k.page,k.pg,k.ten,k.holds,k.rd,k.wr,?_⟩;rw [F,if_neg]
  ·exact k.val
  ·rintro ⟨e1,j⟩;have :=k.val;rw [e1,j] at this;omega
 ·rw [F] at B⊢
  by_cases e:g=f/\q=p
  ·rw [if_pos e] at B;omega
  ·rw [if_neg e] at B⊢;exact h.ent g q (by rw [<-z];exact hg) B
theorem bJ6 {c:Dc} {m:Nat} {u:Us} {v:Int} (f p:Nat)(z:u.file<c.fl.length):(((c.gone m u v).fl.getD f aZ).E p).1=if f=u.file/\p=u.page then v else((c.fl.getD f aZ).E p).1:=by
 show(((c.fl.set u.file (iG (c.fl.getD u.file aZ) (eH (c.fl.getD u.file aZ).E u.page (v,0)))).getD f aZ).E p).1=_
 by_cases e:f=u.file
 ·subst e;rw [aH _ _ _ _ z,aAZ]
  by_cases j:p=u.page
  ·subst j;rw [fV,if_pos ⟨rfl,rfl⟩]
  ·rw [eZ j,if_neg (λh=>j h.2)]
 ·rw [getD_set_ne _ _ _ e,if_neg (λh=>e h.1)]
theorem bAK {c:Dc} (h:Ok c) {m:Nat} {u:Us} (hm:m<c.fr.length)(z:c.fr.getD m none=some u) {v:Int} (f p:Nat)(C:f<c.fl.length)(e:¬(f=u.file/\p=u.page)):jP (c.gone m u v) f p=jP c f p:=by
 have k:=h.use m u hm z;unfold jP;rw [bJ6 f p k.file,if_neg e]
 cases B:decide (0< ((c.fl.getD f aZ).E p).1) with
 |false=>rfl
 |true=>
  obtain⟨n,w,k1,k2,k3,k4,D⟩:=h.ent f p C (of_decide_eq_true B)
  have j:n≠m:=by
   rintro rfl;rw [z] at k3;injection k3 with k3
   subst k3;exact e ⟨k4.symm,D.symm⟩
  rw [zct,zct,k2,show(((n+1:Nat):Int)-1).toNat=n by omega];show((c.fr.set m none).getD n none).map _=_;rw [getD_set_ne _ _ _ j]
theorem bKP {c:Dc} {f p q:Nat} (m:f<c.fl.length)(j:q≠p):jP (c.e0 f p) f q=jP c f q:=by
 have e:((c.e0 f p).fl.getD f aZ).E q=(c.fl.getD f aZ).E q:=by show((c.fl.set f (iG (c.fl.getD f aZ) (eH (c.fl.getD f aZ).E p (0,0)))).getD f aZ).E q=_;rw [aH _ _ _ _ m,aAZ,eZ j]
 unfold jP;rw [e];rfl
theorem bAJ {c:Dc} {f p q:Nat} (j:f<c.fl.length):jP (c.bl f p) f q=jP c f q:=by
 have e:((c.bl f p).fl.getD f aZ).E q=(c.fl.getD f aZ).E q:=by show((c.fl.set f (fbl (c.fl.getD f aZ) _)).getD f aZ).E q=_;rw [aH _ _ _ _ j];rfl
 unfold jP;rw [e];rfl
theorem aZ6 {c d:Dc} {f off n p:Nat} (h:(d.fl.getD f aZ).size=(c.fl.getD f aZ).size):isW d f off n p=isW c f off n p:=by unfold isW;rw [h]
theorem aP6(c:Dc)(m:Nat)(u:Us)(f:Nat):((c.put m u).fl.getD f aZ).size=(c.fl.getD f aZ).size:=by
 show((c.fl.set u.file (iG (c.fl.getD u.file aZ) (mE (c.fl.getD u.file aZ).E u))).getD f aZ).size=_
 by_cases e:f=u.file
 ·subst e
  by_cases j:u.file<c.fl.length
  ·rw [aH _ _ _ _ j];rfl
  ·rw [eG _ _ (zE j)]
 ·rw [getD_set_ne _ _ _ e]
theorem aUF {L:List Df} {g f:Nat} {x:Df} (h:x.size=(L.getD g aZ).size):((L.set g x).getD f aZ).size=(L.getD f aZ).size:=by
 by_cases e:f=g
 ·subst e
  by_cases j:f<L.length
  ·rw [aH _ _ _ _ j,h]
  ·rw [eG _ _ (zE j)]
 ·rw [getD_set_ne _ _ _ e]
theorem aO0(d:Df)(b:Nat):(fbl d b).size=d.size:=rfl
theorem aKE(d:Df)(E:dJ):(iG d E).size=d.size:=rfl
theorem aZC {c:Dc} {f off n p:Nat} (h:aDD c f off n p=true)(z:isW c f off n p=false):∃m u,jP c f p=some (m,u)/\lI u off n p true=0:=by
 unfold aDD at h;rw [z,zcf] at h
 cases j:jP c f p with
 |none=>rw [j] at h;cases h
 |some x=>
  rw [j] at h;dsimp only at h;refine⟨x.1,x.2,rfl,?_⟩
  cases e:(bif (x.2.rd:Int)==0 then(x.2.wr:Int)==0 else false) with
  |false=>rw [e] at h;cases h
  |true=>rw [e,zct] at h;have :=zbe.1 h;omega
theorem aNK {c:Dc} {f off n:Nat} :∀ {j:Nat},(gY c f off n j).2.2=true->∀k,k<j->aDD c f off n (off/16+k)=true
 |0,_,k,m=>by omega
 |j+1,h,k,m=>by
  rw [gY] at h;dsimp only at h;rw [Bool.and_eq_true] at h
  by_cases e:k=j
  ·subst e;exact h.2
  ·exact aNK h.1 k (by omega)
theorem bF7 {c:Dc} (h:Ok c) {f off n p:Nat} (j:f<c.fl.length)(B:p<8)(E:(cM p off n).1+(cM p off n).2<=16):Ok (aFF c f off n p)/\(aFF c f off n p).fl.length=c.fl.length/\((aFF c f off n p).fl.getD f aZ).size=(c.fl.getD f aZ).size/\∀q,q≠p->jP (aFF c f off n p) f q=jP c f q:=by
 unfold aFF
 cases isW c f off n p with
 |true=>
  rw [zct]
  cases D:jP c f p with
  |none=>
   dsimp only;have z:(c.e0 f p).fl.length=c.fl.length:=zA ..;refine⟨(h.e0 j (by omega) D).bl (by rw [z];exact j) B,by show(List.set _ _ _).length=_;rw [zA];exact z,?_,λq C=>?_⟩
   ·exact(aUF (aO0 _ _)).trans (aUF (aKE _ _))
   ·show jP ((c.e0 f p).bl f p) f q=_;rw [bAJ (by rw [z];exact j),bKP j C]
  |some x=>
   obtain⟨m,u⟩:=x;obtain⟨q1,q2,H,F,J⟩:=dH h j D;dsimp only;have z:(c.gone m u 0).fl.length=c.fl.length:=zA ..;refine⟨(h.gone q1 q2 (Int.le_refl 0) (by omega)).bl (by rw [z];exact j) B,by show(List.set _ _ _).length=_;rw [zA];exact z,?_,λq C=>?_⟩
   ·exact(aUF (aO0 _ _)).trans (aUF (aKE _ _))
   ·show jP ((c.gone m u 0).bl f p) f q=_;rw [bAJ (by rw [z];exact j),bAK h q1 q2 f q j (λe=>C (e.2.trans F))]
 |false=>
  rw [zcf]
  cases D:jP c f p with
  |none=>exact⟨h,rfl,rfl,λ_ _=>rfl⟩
  |some x=> obtain⟨m,u⟩:=x;obtain⟨q1,q2,H,F,J⟩:=dH h j D;have G:=aA1 (h.use m u q1 q2).pg (off:=(cM p off n).1) (s:=zB (cM p off n).2) (by rw [aV0];exact E);refine⟨h.put' q1 q2 G,vV _ _ _,aP6 _ _ _ _,λq C=>?_⟩;show jP (c.put m _) f q=_;rw [aLV h q1 q2 f q j,if_neg (λe=>C (e.2.trans F))]
theorem sP {c:Dc} (h:Ok c) {f off n:Nat} (j:f<c.fl.length)(e:off+n<=128):∀k,k<=cnt off n->Ok (aAB c f off n k)/\(aAB c f off n k).fl.length=c.fl.length/\((aAB c f off n k).fl.getD f aZ).size=(c.fl.getD f aZ).size/\∀i,k<=i->jP (aAB c f off n k) f (off/16+i)=jP c f (off/16+i)
 |0,_=>⟨h,rfl,rfl,λ_ _=>rfl⟩
 |k+1,H=>by obtain⟨m,h2,z,h4⟩:=sP h j e k (by omega);have F:=rQ e;obtain⟨B,C,D,E⟩:=bF7 m (off:=off) (n:=n) (p:=off/16+k) (by rw [h2];exact j) (by omega) (sJ (show k<cnt off n by omega)).1;exact⟨B,C.trans h2,D.trans z,λi G=>(E _ (by omega)).trans (h4 i (by omega))⟩
theorem aNJ(c:Dc)(f off n:Nat):∀k p,((gY c f off n k).1.testBit p=(decide (off/16<=p/\p<off/16+k)&&isW c f off n p))/\((gY c f off n k).2.1.testBit p=(decide (off/16<=p/\p<off/16+k)&& !isW c f off n p))
 |0,p=>by rw [zdf (show ¬(off/16<=p/\p<off/16+0) by omega)];exact⟨zC p,zC p⟩
 |k+1,p=>by
  obtain⟨j,h2⟩:=aNJ c f off n k p;rw [gY];dsimp only;have z:decide (off/16<=p/\p<off/16+(k+1))=(decide (off/16<=p/\p<off/16+k)||decide (off/16+k=p)):=by rw [Bool.eq_iff_iff];simp only [Bool.or_eq_true,decide_eq_true_eq];omega
  rw [z]
  by_cases e:off/16+k=p
  ·subst e;rw [zdf (show ¬(off/16<=off/16+k/\off/16+k<off/16+k) by omega)] at j h2⊢
   cases B:isW c f off n (off/16+k) with
   |true=>simp [zD,j,h2]
   |false=>simp [zD,j,h2]
  ·rw [zdf e,zI];have m:(2^(off/16+k)).testBit p=false:=by rw [zH];exact zdf e
   cases isW c f off n (off/16+k) with
   |true=>exact⟨by rw [zct,zD,m,zI,j],by rw [zct];exact h2⟩
   |false=>exact⟨by rw [zcf];exact j,by rw [zcf,zD,m,zI,h2]⟩
theorem bCA {w p:Nat} :(((w &&& 2^p:Nat):Int) != 0)=w.testBit p:=by
 cases h:w.testBit p with
 |true=>
  have :(w &&& 2^p).testBit p=true:=by rw [Nat.testBit_and,h,Nat.testBit_two_pow_self];rfl
  refine bne_iff_ne.2 λe=>?_;rw [show w &&& 2^p=0 by omega,zC] at this;cases this
 |false=>
  have :w &&& 2^p=0:=by
   apply Nat.eq_of_testBit_eq;intro i;rw [Nat.testBit_and,zH,zC]
   by_cases e:p=i
   ·subst e;rw [h];rfl
   ·rw [zdf e,Bool.and_false]
  rw [this];rfl
end Go.Proofs.YtmhapcbjjpadnaaGreat
