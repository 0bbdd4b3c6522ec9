/- Caches. -/
import Derived.Test.YtmhapcbjjpadnaaGreatGEc
set_option linter.all false
set_option maxHeartbeats 2000000
set_option maxRecDepth 40000
open Bool renaming and_false→zH
open List renaming getElem?_eq_none→zA,getD_eq_getElem?_getD→zC,ext_getElem?→zD,length_map→zF,getElem?_set→zI,length_take→zK
open Nat renaming zero_le→zE,min_eq_left→zG,le_of_lt→zJ
namespace Go.Proofs.YtmhapcbjjpadnaaGreat
open Go Go.Sk Go.RowKit
def sW(b s:List UInt8)(f:Nat->Bool)(i:Nat):List UInt8:=(List.range b.length).map λj=>bif decide (j<i)&&f (j/8) then s.getD j 0 else b.getD j 0
theorem kP(b s:List UInt8)(f:Nat->Bool)(i:Nat):(sW b s f i).length=b.length:=by simp [sW]
theorem qZ(b s:List UInt8)(f:Nat->Bool)(i j:Nat)(h:j<b.length):(sW b s f i)[j]? =some (bif decide (j<i)&&f (j/8) then s.getD j 0 else b.getD j 0):=by simp [sW,h]
theorem aRF(b s:List UInt8)(f:Nat->Bool):sW b s f 0=b:=by
 apply zD;intro j
 by_cases h:j<b.length
 ·rw [qZ _ _ _ _ _ h];simp [h]
 ·rw [zA (by rw [kP];omega),zA (by omega)]
theorem aWC(b s:List UInt8)(f:Nat->Bool)(i:Nat)(h:f (i/8)=true):sW b s f (i+1)=(sW b s f i).set i (s.getD i 0):=by
 apply zD;intro j
 by_cases m:j<b.length
 ·rw [qZ _ _ _ _ _ m,zI]
  by_cases e:i=j
  ·subst e;rw [if_pos rfl,if_pos (by rw [kP];exact m),h,zdt (by omega)];rfl
  ·rw [if_neg e,qZ _ _ _ _ _ m,show decide (j<i+1)=decide (j<i) by rw [decide_eq_decide];omega]
 ·rw [zA (by rw [kP];omega),zA (by rw [List.length_set,kP];omega)]
theorem aRE(b s:List UInt8)(f:Nat->Bool)(i:Nat)(h:f (i/8)=false):sW b s f (i+1)=sW b s f i:=by
 apply zD;intro j
 by_cases m:j<b.length
 ·rw [qZ _ _ _ _ _ m,qZ _ _ _ _ _ m]
  by_cases e:i=j
  ·subst e;rw [h,zH,zH]
  ·rw [show decide (j<i+1)=decide (j<i) by rw [decide_eq_decide];omega]
 ·rw [zA (by rw [kP];omega),zA (by rw [kP];omega)]
def aVW(s v q:Nat):Bool:=bif (((s &&& 2^q:Nat):Int) != 0) then(((v &&& 2^q:Nat):Int)==0) else false
def aO1(p:Pg)(s:Nat)(d:ByteArray):Pg:=⟨⟨(sW p.b.data.toList d.data.toList (aVW s p.v) 16).toArray⟩,p.v ||| s,p.d⟩
theorem bOW(p:Pg)(h:fQ p)(s:Nat)(E:s<4)(d:ByteArray)(C:d.size=16):aM Tryz.prog 159 [] [.agg p.c,.int .i64 (s:Int),.str d] (.tup [.agg (aO1 p s d).c,.int .i64 0]) []:=by
 have f:=aTM p h;have B:=h.size;have e:=h.v;have j:=h.d;simp only [aO1,Pg.c];refine aE (ob0:= []) [] Tryz.func159 rfl rfl rfl rfl ?_;refine Wx ?_;refine Lp (λi:Nat=>i<=16) (λi=> [(9,.int .i64 (i:Int))]) (λi=> [(2,.bb (sW p.b.data.toList d.data.toList (aVW s p.v) i))]) (λi=>16-i) 0 (zE _) ?_ ?_
 ·rw [aRF];exact Vr [_,_,_]
 intro i D;have h2:2^(i/8)<16:=Nat.pow_lt_pow_right (m:=i/8) (n:=4) (by omega) (by omega);have z:=kP p.b.data.toList d.data.toList (aVW s p.v) i;rw [show p.b.data.toList.length=16 from B] at z;refine Wx ?_;refine gE (λb=>?_) (λb=>?_)
 ·refine Wx ?_;refine aC (λc=>?_) (λc=>?_)
  ·have c:aVW s p.v (i/8)=true:=c;refine Wx ?_;refine Le (i+1) (hv:=?_);simp only [aWC _ _ _ _ c];exact Vr [_,_,_]
  ·have c:aVW s p.v (i/8)=false:=c;refine Wx ?_;refine Le (i+1) (hv:=?_);simp only [aRE _ _ _ _ c];exact Vr [_,_,_]
 obtain rfl:i=16:=by omega
 exact Wz
def nU(off n:Int):Bool:=decide (0<=off/\0<=n/\off<=128/\n<=128-off)
theorem aBV(off n:Int):aM Tryz.prog 125 [] [.int .i64 off,.int .i64 n] (.bool (nU off n)) []:=by
 have j:(bif bif bif decide (0<=off) then decide (0<=n) else false then decide (off<=128) else false then decide (n<=IntKind.i64.wrap (128-off)) else false)=nU off n:=by
  unfold nU
  by_cases e:0<=off
  ·by_cases f:0<=n
   ·by_cases m:off<=128
    ·rw [aP (n:=128-off) (by omega) (by omega)];simp [e,f,m]
    ·simp [e,f,m]
   ·simp [e,f]
  ·simp [e]
 refine cK Tryz.func125 ?_;refine Wk ?_;rw [j];exact Lf
theorem aCS {off n:Nat} (h:off+n<=128):nU (off:Int) (n:Int)=true:=zdt ⟨by omega,by omega,by omega,by omega⟩
theorem aQG {off n:Int} (h:nU off n=true):∃a b:Nat,off=a/\n=b/\a+b<=128:=by have :=of_decide_eq_true h;exact⟨off.toNat,n.toNat,by omega,by omega,by omega⟩
def aA5(off n:Nat):Nat:=(off+n+15)/16-off/16
def pgR(a k:Nat):List (List V):=aB ((List.range' a k).map λx:Nat=>(x:Int))
@[simp] theorem bS0 (a k:Nat):(pgR a k).length=k:=by simp [pgR]
theorem aP3(a k:Nat):pgR a (k+1)=pgR a k++ [[.int .i64 ((a+k:Nat):Int)]]:=by simp [pgR,aB,List.range'_concat]
theorem bR2(off n:Int)(h:n<1\/nU off n=false):aM Tryz.prog 66 [] [.int .i64 off,.int .i64 n] (.lst 0 true []) []:=by
 have e:=aBV off n;refine aE (ob0:= []) [] Tryz.func66 rfl rfl rfl rfl ?_
 by_cases f:n<1
 ·exact Wz
 ·rw [h.resolve_left f] at e;exact Wz
theorem bTB(off n:Nat)(h:1<=n)(h2:off+n<=128):aM Tryz.prog 66 [] [.int .i64 (off:Int),.int .i64 (n:Int)] (.lst 1 false (pgR (off/16) (aA5 off n))) []:=by
 have f:=aBV (off:Int) (n:Int);rw [aCS h2] at f;refine aE (ob0:= []) [] Tryz.func66 rfl rfl rfl rfl ?_;have e:aA5 off n=(off+n+15)/16-off/16:=rfl;refine Wx ?_;refine Lp (λi:Nat=>i<=aA5 off n) (λi=> [(6,.int .i64 ((off/16+i:Nat):Int)),(5,.sl 0 0 i)]) (λi=> [(0,.row 1 (pgR (off/16) i))]) (λi=>aA5 off n-i) 0 (zE _) ?_ ?_
 ·exact Vr [none]
 intro i j;refine Wx ?_;refine gE (λb=>?_) (λb=>?_)
 ·refine Wx ?_;refine Le (i+1) (hv:=?_);simp only [aP3];exact Vr [_]
 obtain rfl:i=aA5 off n:=by omega
 exact Wz
def cM(p off n:Nat):Nat×Nat:=(max off (p*16)-p*16,min (off+n) ((p+1)*16)-max off (p*16))
theorem bOM(p off n:Nat)(f:p<=8)(h:off+n<=128)(e:off<=(p+1)*16)(h2:p*16<=off+n):aM Tryz.prog 126 [] [.int .i64 (p:Int),.int .i64 (off:Int),.int .i64 (n:Int)] (.tup [.int .i64 ((cM p off n).1:Int),.int .i64 ((cM p off n).2:Int)]) []:=by unfold cM;refine aE (ob0:= []) [] Tryz.func126 rfl rfl rfl rfl ?_;exact Wz
def mO {α:Type} (g:α->α)(l:List α)(i:Nat):List α:=(l.take i).map g++l.drop i
@[simp] theorem oH {α:Type} (g:α->α) (l:List α) (i:Nat):(mO g l i).length=l.length:=by simp only [mO,List.length_append,zF,zK,List.length_drop];omega
theorem vO {α:Type} (g:α->α)(l:List α):mO g l 0=l:=by simp [mO]
theorem aBO {α:Type} (g:α->α)(l:List α):mO g l l.length=l.map g:=by simp [mO]
theorem uH {α:Type} (g:α->α)(l:List α)(i:Nat)(d:α)(h:i<l.length):(mO g l i).getD i d=l.getD i d:=by simp [mO,zC,List.getElem?_append,zG (zJ h)]
theorem qV {α:Type} (g:α->α)(l:List α)(i:Nat)(d:α)(h:i<l.length):mO g l (i+1)=(mO g l i).set i (g (l.getD i d)):=by unfold mO;rw [aEV d h,List.map_append,List.set_append,if_neg (by simp [zG (zJ h)]),List.drop_eq_getElem_cons h,zF,zK,zG (zJ h),Nat.sub_self,List.set_cons_zero];simp [zC,h]
theorem aDC {α:Type} (g:α->α)(l:List α)(i:Nat)(d:α)(h:i<l.length)(e:g (l.getD i d)=l.getD i d):mO g l (i+1)=mO g l i:=by
 rw [qV g l i d h,e,<-uH g l i d h];apply zD;intro j;rw [zI];split
 ·rename_i e;subst e;rw [if_pos (by rw [oH];exact h)];have f:i< (mO g l i).length:=by rw [oH];exact h
  rw [zC,List.getElem?_eq_getElem f];rfl
 ·rfl
def aC2(f:Int)(p:Pt):Pt:=bif p.frame==f then⟨p.proc,p.page,p.frame,false,p.acc⟩ else p
def eP(f:Int)(p:Pt):Pt:=bif p.frame==f then⟨p.proc,p.page,p.frame,p.wr,false⟩ else p
theorem bPV(l:List Pt)(f:Int)(m:kU l=true)(z:l.length<=100000):aM Tryz.prog 279 [] [.lst 5 false (aN l),.int .i64 f] (.lst 5 false (aN (l.map (aC2 f)))) []:=by
 have e:=aTJ l false z;rw [m] at e;refine aE (ob0:= []) [] Tryz.func279 rfl rfl rfl rfl ?_;refine Wx ?_;refine Lp (λi:Nat=>i<=l.length) (λi=> [(6,.int .i64 (i:Int))]) (λi=> [(0,.row 5 (aN (mO (aC2 f) l i)))]) (λi=>l.length-i) 0 (zE _) ?_ ?_
 ·rw [vO];exact Vr [_]
 intro i D;refine Wx ?_;refine gE (λb=>?_) (λb=>?_)
 ·have b:i<l.length:=by omega
  have hg:=gH (mO (aC2 f) l i) i (by rw [oH];exact b);rw [uH _ _ _ _ b] at hg;have C:=qV (aC2 f) l i p0 b;have B:=aDC (aC2 f) l i p0 b;have j:aC2 f (l.getD i p0)=bif (l.getD i p0).frame==f then⟨(l.getD i p0).proc,(l.getD i p0).page,(l.getD i p0).frame,false,(l.getD i p0).acc⟩ else l.getD i p0:=rfl
  generalize l.getD i p0=x at *;refine Wx ?_;refine aC (λc=>?_) (λc=>?_)
  ·rw [c,zct] at j;refine Wx ?_;refine Le (i+1) (hv:=?_);simp only [C,j,<-nP];exact Vr [_]
  ·rw [c,zcf] at j;refine Wx ?_;refine Le (i+1) (hv:=?_);simp only [B j];exact Vr [_]
 obtain rfl:i=l.length:=by omega
 rw [aBO];exact Wz
theorem bQF(a b:Int):aM Tryz.prog 331 [] [.agg [.int .i64 a,.int .i64 b]] (.bool (bif (bif decide (0<=a) then decide (a<=1000000) else false) then(a==0)==(b==0) else false)) []:=by refine aE (ob0:= []) [] Tryz.func331 rfl rfl rfl rfl ?_;exact Wz
def aDO(a b e:Int):Int×Int:=bif a==1000000 then(a,b) else(a+1,e)
theorem bPS(a b e:Int)(f:0<=a)(j:a<=1000000)(h2:a=0↔b=0)(m:e≠0):aM Tryz.prog 275 [] [.agg [.int .i64 a,.int .i64 b],.int .i64 e] (.tup [.agg [.int .i64 (aDO a b e).1,.int .i64 (aDO a b e).2],.int .i64 (bif a==1000000 then 3 else 0)]) []:=by
 have k:=bQF a b
 have e1:(bif (bif decide (0<=a) then decide (a<=1000000) else false) then(a==0)==(b==0) else false)=true:=by
  rw [zdt f,zdt j]
  by_cases x:a=0
  ·simp [x,h2.1 x]
  ·have :b≠0:=λy=>x (h2.2 y);rw [zbn.2 x,zbn.2 this];rfl
 rw [e1] at k;unfold aDO;refine aE (ob0:= []) [] Tryz.func275 rfl rfl rfl rfl ?_;refine Wx ?_;refine bNJ (λb=>?_) (λb=>?_)
 ·subst b;exact Wz
 ·rw [zbn.2 b];exact Wz
theorem bQM(s:Nat)(h:s<7):aM Tryz.prog 356 [] [.int .i64 (s:Int)] (.bool true) []:=by
 match s,h with
 |0,_=>exact run_eq E1 40 (by kernel_rfl)
 |1,_=>exact run_eq E1 40 (by kernel_rfl)
 |2,_=>exact run_eq E1 40 (by kernel_rfl)
 |3,_=>exact run_eq E1 40 (by kernel_rfl)
 |4,_=>exact run_eq E1 40 (by kernel_rfl)
 |5,_=>exact run_eq E1 40 (by kernel_rfl)
 |6,_=>exact run_eq E1 40 (by kernel_rfl)
 |n+7,h=>exact absurd h (by omega)
theorem bQG(s p:Nat)(h:s<7)(e:p<8):aM Tryz.prog 332 [] [.int .i64 (s:Int),.int .i64 (p:Int)] (.int .i64 ((s*18+2+p*2:Nat):Int)) []:=by have k:=bQM s h;refine aE (ob0:= []) [] Tryz.func332 rfl rfl rfl rfl ?_;exact Wz
def jH(l:List Pt)(e:Pt):Nat->List Pt×Bool
 |0=>([],false)
 |i+1=>(bif (eX (l.getD i p0) e||eX e (l.getD i p0)) then(bif !(jH l e i).2&& !eX (l.getD i p0) e then(jH l e i).1++ [e] else(jH l e i).1)++ [l.getD i p0]
   else(bif !(jH l e i).2&& !eX (l.getD i p0) e then(jH l e i).1++ [e] else(jH l e i).1),(jH l e i).2|| !eX (l.getD i p0) e)
theorem aJE(l:List Pt)(e:Pt)(i:Nat):jH l e (i+1)=(bif (eX (l.getD i p0) e||eX e (l.getD i p0)) then(bif !(jH l e i).2&& !eX (l.getD i p0) e then(jH l e i).1++ [e] else(jH l e i).1)++ [l.getD i p0]
 else(bif !(jH l e i).2&& !eX (l.getD i p0) e then(jH l e i).1++ [e] else(jH l e i).1),(jH l e i).2|| !eX (l.getD i p0) e):=rfl
def aQT(l:List Pt)(e:Pt):List Pt:=bif (jH l e l.length).2 then(jH l e l.length).1 else(jH l e l.length).1++ [e]
theorem aYA(l:List Pt)(e:Pt)(i:Nat):(jH l e i).1.length<=2*i:=by
 induction i with
 |zero=>simp [jH]
 |succ i f=> unfold jH;dsimp only;cases(eX (l.getD i p0) e||eX e (l.getD i p0))<;> cases(!(jH l e i).2&& !eX (l.getD i p0) e)<;> simp <;> omega
theorem aK8(a:List Pt)(x:Pt):aN (a++ [x])=aN a++ [x.c]:=by simp [aN]
theorem bOY(l:List Pt)(e:Pt)(C:kU l=true)(F:l.length<=10000)(D:eN e=true):aM Tryz.prog 175 [] [.lst 5 false (aN l),.agg e.c] (.tup [.lst 5 false (aN (aQT l e)),.int .i64 0]) []:=by
 have f:=aTJ l false (by omega);have j:=bHE e;rw [C] at f;rw [D] at j;refine aE (ob0:= []) [] Tryz.func175 rfl rfl rfl rfl ?_;refine Wx ?_;refine Lp (λi:Nat=>i<=l.length) (λi=> [(8,.int .i64 (i:Int)),(7,.bool (jH l e i).2),(6,.sl 1 0 (jH l e i).1.length)]) (λi=> [(1,.row 5 (aN (jH l e i).1))]) (λi=>l.length-i) 0 (zE _) ?_ ?_
 ·exact Vr [_,none]
 intro i E;have B:=aYA l e i;refine Wx ?_;refine gE (λb=>?_) (λb=>?_)
 ·have b:i<l.length:=by omega
  have hg:=gH l i b;have k1:=bAA (l.getD i p0) e;have k2:=bAA e (l.getD i p0);have m:=aJE l e i;generalize l.getD i p0=x at *;generalize eX x e=u at *;generalize eX e x=v at *;generalize jH l e i=q at *;obtain⟨o,z⟩:=q;dsimp only at B m⊢;cases z <;> cases u <;> cases v
  all_goals
   simp only [Bool.or_true,Bool.or_false,Bool.or_self,Bool.and_true,zH,Bool.and_self,Bool.not_true,Bool.not_false,Bool.true_or,Bool.false_or,zct,zcf] at m;refine Wx ?_;refine Le (i+1) (hv:=?_);simp only [m,aK8];exact Vr [_,_]
 obtain rfl:i=l.length:=by omega
 unfold aQT;generalize jH l e l.length=q at *;obtain⟨o,z⟩:=q;dsimp only at B⊢;cases z
 ·simp only [zcf,aK8];exact Wz
 ·exact Wz
def jP(c:Dc)(f p:Nat):Option (Nat×Us):=bif decide (0< ((c.fl.getD f aZ).E p).1) then(c.fr.getD (((c.fl.getD f aZ).E p).1-1).toNat none).map λu=>((((c.fl.getD f aZ).E p).1-1).toNat,u) else none
theorem dH {c:Dc} (h:Ok c) {f p n:Nat} {u:Us} (z:f<c.fl.length)(e:jP c f p=some (n,u)):n<c.fr.length/\c.fr.getD n none=some u/\u.file=f/\u.page=p/\((c.fl.getD f aZ).E p).1=((n+1:Nat):Int):=by
 unfold jP at e
 cases j:decide (0< ((c.fl.getD f aZ).E p).1) with
 |false=>rw [j] at e;cases e
 |true=> rw [j,zct] at e;obtain⟨m,w,k1,k2,k3,k4,B⟩:=h.ent f p z (of_decide_eq_true j);rw [k2,show(((m+1:Nat):Int)-1).toNat=m by omega,k3] at e;simp only [Option.map_some,zse,Prod.mk.injEq] at e;obtain⟨rfl,rfl⟩:=e;exact⟨k1,k3,k4,B,k2⟩
theorem aP4 {c:Dc} (h:Ok c) {f p:Nat} (z:f<c.fl.length)(e:jP c f p=none):((c.fl.getD f aZ).E p).1<=0:=by
 unfold jP at e
 cases j:decide (0< ((c.fl.getD f aZ).E p).1) with
 |false=>have :=of_decide_eq_false j;omega
 |true=> rw [j,zct] at e;obtain⟨m,w,k1,k2,k3,k4,B⟩:=h.ent f p z (of_decide_eq_true j);rw [k2,show(((m+1:Nat):Int)-1).toNat=m by omega,k3] at e;cases e
theorem aD0(E:dJ)(p:Nat):findF E (p:Int)=bif decide ((E p).1<=0) then(0,false) else((E p).1,true):=by unfold findF aDY;rw [zdt (show(0:Int)<=(p:Int) by omega),zct,Int.toNat_natCast]
theorem bJ1 {c:Dc} (h:Ok c) {f p n:Nat} {u:Us} (j:f<c.fl.length)(e:jP c f p=some (n,u)):findF (c.fl.getD f aZ).E (p:Int)=(((n+1:Nat):Int),true):=by have :=(dH h j e).2.2.2.2;rw [aD0,this,zdf (by omega)];rfl
theorem bJ0 {c:Dc} (h:Ok c) {f p:Nat} (j:f<c.fl.length)(e:jP c f p=none):findF (c.fl.getD f aZ).E (p:Int)=(0,false):=by rw [aD0,zdt (aP4 h j e)];rfl
theorem Ok.f33s {c:Dc} (h:Ok c) {f p n:Nat} {u:Us} (j:f<c.fl.length)(e:jP c f p=some (n,u)):aM Tryz.prog 33 [] [.agg c.c,.int .i64 (f:Int),.int .i64 (p:Int)] (.tup [.int .i64 ((n+1:Nat):Int),.bool true]) []:=by
 have :=bAD c f (p:Int) h.sm j (h.file f j).E (h.file f j).sup
 rwa [bJ1 h j e] at this
theorem Ok.f33n {c:Dc} (h:Ok c) {f p:Nat} (j:f<c.fl.length)(e:jP c f p=none):aM Tryz.prog 33 [] [.agg c.c,.int .i64 (f:Int),.int .i64 (p:Int)] (.tup [.int .i64 0,.bool false]) []:=by
 have :=bAD c f (p:Int) h.sm j (h.file f j).E (h.file f j).sup
 rwa [bJ0 h j e] at this
def cnt(off n:Nat):Nat:=bif decide (n=0) then 0 else aA5 off n
theorem rQ {off n:Nat} (h:off+n<=128):off/16+cnt off n<=8:=by
 unfold cnt aA5
 by_cases e:n=0
 ·rw [zdt e,zct];omega
 ·rw [zdf e,zcf];omega
theorem bHV {off n k:Nat} (h:k<cnt off n):off< (off/16+k+1)*16/\(off/16+k)*16<off+n/\1<=n:=by
 unfold cnt aA5 at h
 by_cases e:n=0
 ·rw [zdt e,zct] at h;omega
 ·rw [zdf e,zcf] at h;omega
theorem aFW(a m k:Nat)(h:k<m):(pgR a m).getD k []=[.int .i64 ((a+k:Nat):Int)]:=by simp [pgR,aB,zC,h]
theorem aTQ(off n:Nat)(h2:off+n<=128):aM Tryz.prog 66 [] [.int .i64 (off:Int),.int .i64 (n:Int)] (.lst 1 false (pgR (off/16) (cnt off n))) []:=by
 by_cases e:n=0
 ·have :=bR2 (off:Int) (n:Int) (.inl (by omega));unfold cnt;rw [zdt e,zct];exact this.le (nD.refl _) LeV.nils (pP.refl _)
 ·have :=bTB off n (by omega) h2;unfold cnt;rw [zdf e,zcf];exact this
theorem aLS {off n k:Nat} (h:off+n<=128)(e:k<cnt off n):aM Tryz.prog 126 [] [.int .i64 ((off/16+k:Nat):Int),.int .i64 (off:Int),.int .i64 (n:Int)] (.tup [.int .i64 ((cM (off/16+k) off n).1:Int),.int .i64 ((cM (off/16+k) off n).2:Int)]) []:=by have f:=rQ h;have h2:=bHV e;exact bOM _ off n (by omega) h (by omega) (by omega)
theorem sJ {off n k:Nat} (e:k<cnt off n):(cM (off/16+k) off n).1+(cM (off/16+k) off n).2<=16/\1<=(cM (off/16+k) off n).2/\(off/16+k)*16+(cM (off/16+k) off n).1+(cM (off/16+k) off n).2<=off+n/\off<=(off/16+k)*16+(cM (off/16+k) off n).1:=by have h2:=bHV e;unfold cM;dsimp only;generalize off/16+k=p at *;omega
def lI(u:Us)(off n p:Nat)(w:Bool):Nat:=aED u.p (cM p off n).1 (cM p off n).2 w
def lQ(c:Dc)(f off n:Nat)(w:Bool):Nat->Option (List (Nat×Nat))
 |0=>some []
 |k+1=>match lQ c f off n w k,jP c f (off/16+k) with
  |some L,some (m,u)=>some (bif lI u off n (off/16+k) w==0 then L else L++ [(m+1,lI u off n (off/16+k) w)])
  |_,_=>none
theorem aX8 {c:Dc} {f off n:Nat} {w:Bool} {k:Nat} (h:lQ c f off n w k=none):∀ {j:Nat},k<=j->lQ c f off n w j=none:=by
 intro j z
 induction j with
 |zero=>exact(show k=0 by omega)▸h
 |succ j m=>
  by_cases e:k=j+1
  ·subst e;exact h
  ·have :=m (by omega);rw [lQ,this]
theorem aIK {c:Dc} {f off n:Nat} {w:Bool} :∀ {k:Nat} {L:List (Nat×Nat)},lQ c f off n w k=some L->L.length<=k
 |0,L,h=>by obtain rfl:=zsi h;exact Nat.le_refl 0
 |k+1,L,h=>by
  rw [lQ] at h;split at h
  ·rename_i j m u e h2;have :=aIK e;obtain rfl:=zsi h;cases(lI u off n (off/16+k) w==0)<;> simp <;> omega
  ·cases h
theorem aKN {c:Dc} {f off n:Nat} {w:Bool} :∀ {j:Nat} {L:List (Nat×Nat)},lQ c f off n w j=some L->∀k,k<j->∃m u,jP c f (off/16+k)=some (m,u)
 |0,_,_,k,B=>by omega
 |j+1,L,h,k,B=>by
  rw [lQ] at h;split at h
  ·rename_i C m u z h2
   by_cases e:k=j
   ·subst e;exact⟨m,u,h2⟩
   ·exact aKN z k (by omega)
  ·cases h
def aK7(L:List (Nat×Nat)):List (List V):=L.map λp=> [.int .i64 (p.1:Int),.int .i64 (p.2:Int)]
@[simp] theorem bLO (L:List (Nat×Nat)):(aK7 L).length=L.length:=zF _
theorem aWS(L:List (Nat×Nat))(a b:Nat):aK7 (L++ [(a,b)])=aK7 L++ [[.int .i64 (a:Int),.int .i64 (b:Int)]]:=by simp [aK7]
def bF2:Option (List (Nat×Nat))->V
 |none=>.tup [.lst 0 true [],.int .i64 4]
 |some L=>.tup [.lst 2 false (aK7 L),.int .i64 0]
theorem bJO(c:Dc)(f:Int)(j:¬(0<=f/\f< (c.fl.length:Int))):aM Tryz.prog 115 [] [.agg c.c,.int .i64 f] (.bool false) []:=by
 have e:(bif decide (0<=f) then decide (f< (c.fl.length:Int)) else false)=false:=by
  by_cases a:0<=f
  ·rw [zdt a,zct];exact zdf (λb=>j ⟨a,b⟩)
  ·rw [zdf a,zcf]
 rw [<-e];refine aE (ob0:= []) [] Tryz.func115 rfl rfl rfl rfl ?_;exact Wz
theorem bT8(c:Dc)(h:Ok c)(f off n:Nat)(E:f<c.fl.length)(D:off+n<=128)(w:Bool):aM Tryz.prog 53 [] [.agg c.c,.int .i64 (f:Int),.int .i64 (off:Int),.int .i64 (n:Int),.bool w] (bF2 (lQ c f off n w (cnt off n))) []:=by
 have H:=aHQ c f E;have B:=aBV (off:Int) (n:Int);have R:=aTQ off n D;rw [aCS D] at B;have T:=rQ D;generalize F:bF2 (lQ c f off n w (cnt off n))=q;refine aE (ob0:= []) [] Tryz.func53 rfl rfl rfl rfl ?_;refine Wx ?_;refine Lp (α:=Nat×List (Nat×Nat)) (λa=>a.1<=cnt off n/\lQ c f off n w a.1=some a.2) (λa=> [(14,.int .i64 (a.1:Int)),(12,.sl 1 0 a.2.length)]) (λa=> [(1,.row 2 (aK7 a.2))]) (λa=>cnt off n-a.1) (0,[]) ⟨zE _,rfl⟩ ?_ ?_
 ·exact Vr [_,none]
 rintro ⟨i,L⟩ ⟨M,j⟩;dsimp only at M j;have W:=aIK j;refine Wx ?_;refine gE (λb=>?_) (λb=>?_)
 ·have b:i<cnt off n:=by omega
  have hg:=aFW (off/16) (cnt off n) i b;have J:=aLS D b
  cases z:jP c f (off/16+i) with
  |none=>
   have e:lQ c f off n w (i+1)=none:=by rw [lQ,j,z]
   rw [aX8 e (show i+1<=cnt off n by omega)] at F;subst F;have G:=h.f33n E z;exact Wz
  |some x=>
   obtain⟨m,u⟩:=x;have G:=h.f33s E z;obtain⟨q1,q2,Y,Z,q5⟩:=dH h E z;have O:=h.use m u q1 q2;have C:=aZW u.p O.pg _ _ (sJ b).1 w;have K:=qA q1 q2;have N:=h.nr;have e:lQ c f off n w (i+1)=some (bif lI u off n (off/16+i) w==0 then L else L++ [(m+1,lI u off n (off/16+i) w)]):=by rw [lQ,j,z]
   have Q:aED u.p (cM (off/16+i) off n).1 (cM (off/16+i) off n).2 w=lI u off n (off/16+i) w:=rfl;rw [Q] at C;generalize lI u off n (off/16+i) w=s at *;refine Wx ?_;refine bCO (λd=>?_) (λd=>?_)
   ·rw [show(s==0)=false from zbn.2 (by omega),zcf] at e;refine Wx ?_;refine Le (i+1,L++ [(m+1,s)]) (hI:=⟨b,e⟩) (hv:=?_);simp only [aWS];exact Vr [_,_]
   ·rw [show(s==0)=true from zbe.2 (by omega),zct] at e;refine Wx ?_;refine Le (i+1,L) (hI:=⟨b,e⟩) (hv:=?_);exact Vr [_,_]
 obtain rfl:i=cnt off n:=by omega
 rw [j] at F;subst F;exact Wz
theorem Ok.a127 {c:Dc} (h:Ok c) {n:Nat} {u:Us} (e:n<c.fr.length)(f:c.fr.getD n none=some u):aM Tryz.prog 127 [] [.agg c.c,.int .i64 ((n+1:Nat):Int)] (.agg (c.acc n u.ten).c) []:= bON c n u h.sm e f (by rw [h.nl];exact(h.use n u e f).ten) (h.smL _)
theorem Ok.p155 {c:Dc} (h:Ok c) {n:Nat} {u u':Us} (e:n<c.fr.length)(B:c.fr.getD n none=some u)(j:lO u'=lO u)(m:fQ u'.p)(z:u'.rd<4)(C:u'.wr<4):aM Tryz.prog 155 [] [.agg c.c,.int .i64 ((n+1:Nat):Int),.agg u'.c] (.agg (c.put n u').c) []:=by
 have k:=h.use n u e B;have f:=h.file _ k.file;simp only [lO,Prod.mk.injEq] at j;obtain⟨k1,k2,k3⟩:=j;refine aZU c n u' h.sm ⟨by show n< (c.fr.set n (some u')).length;rw [List.length_set];exact e,aH _ _ _ _ e,?_,?_,?_,?_,?_,m,?_,z,C⟩
 ·rw [k1];exact k.file
 ·rw [k2];have :=k.page;omega
 ·show bI (c.fl.getD u'.file aZ).E;rw [k1];exact f.E
 ·show Sup (c.fl.getD u'.file aZ).E;rw [k1];exact f.sup
 ·show 0< ((c.fl.getD u'.file aZ).E u'.page).1;rw [k1,k2,k.val];omega
 ·rw [k3];show u.ten<c.ls.length;rw [h.nl];exact k.ten
def iA(c:Dc)(f off n:Nat):Nat:=min n ((c.fl.getD f aZ).size-off)
theorem Df.cells {f:Df} (j:bI f.E):∃k0 k1 k2 k3,f.c=[.int .i64 f.dev,.int .i64 f.slot,.int .i64 (hgt f.E:Int),.lst k0 k1 k2,.int .i64 k3,.int .i64 (oS f.E 0 (4^hgt f.E):Nat),.int .i64 (f.size:Int),.int .i64 (f.blocks:Int),.int .i64 f.ec,.int .i64 f.ee,.int .i64 0,.int .i64 0,.int .i64 0,.int .i64 0,.int .i64 0]/\can f.E=[.int .i64 (hgt f.E:Int),.lst k0 k1 k2,.int .i64 k3,.int .i64 (oS f.E 0 (4^hgt f.E):Nat)]:=by obtain⟨k0,k1,k2,k3,e⟩:=cH j;exact⟨k0,k1,k2,k3,by unfold Df.c;rw [e];rfl,e⟩
def pM(f:Df)(e:Int):Option (Nat×Nat):=bif decide (e<=(f.size:Int)) then none else bif f.size%16==0 then none else bif sS f.blocks (f.size/16) then none else some (f.size/16,bif decide (f.size%16<8) then 3 else 2)
def aKJ:Option (Nat×Nat)->V
 |none=>.tup [.int .i64 (-1),.int .i64 0]
 |some (p,s)=>.tup [.int .i64 (p:Int),.int .i64 (s:Int)]
theorem aB0 {f:Df} {e:Int} {p s:Nat} (h:pM f e=some (p,s))(z:f.size<=128):p<8/\p=f.size/16/\s<4/\(f.size:Int)<e/\f.size%16≠0/\sS f.blocks p=false:=by
 unfold pM at h
 by_cases m:e<=(f.size:Int)
 ·rw [zdt m] at h;cases h
 rw [zdf m,zcf] at h
 by_cases h2:f.size%16=0
 ·rw [zbe.2 h2] at h;cases h
 rw [zbn.2 h2,zcf] at h
 cases j:sS f.blocks (f.size/16) with
 |true=>rw [j] at h;cases h
 |false=> rw [j,zcf] at h;simp only [zse,Prod.mk.injEq] at h;obtain⟨rfl,rfl⟩:=h;refine⟨by omega,rfl,?_,by omega,h2,j⟩;cases decide (f.size%16<8)<;> decide
theorem bQZ(c:Dc)(h:Ok c)(f:Nat)(e:Int)(G:f<c.fl.length):aM Tryz.prog 61 [] [.agg c.c,.int .i64 (f:Int),.int .i64 e] (aKJ (pM (c.fl.getD f aZ) e)) []:=by
 have R:=aHQ c f G;have H:=aAA G;have D:=h.file f G;have Z:=D.size;have j:=λY=>bGP (c.fl.getD f aZ) D.E ((c.fl.getD f aZ).size/16) Y D.blocks;obtain⟨k0,k1,k2,k3,z,-⟩:=Df.cells D.E;rw [z] at H;simp only [z] at j;generalize m:pM (c.fl.getD f aZ) e=q;unfold pM at m;generalize c.fl.getD f aZ=x at *
 by_cases C:e<=(x.size:Int)
 ·rw [zdt C] at m;subst m;dsimp only [aKJ];refine aE (ob0:= []) [] Tryz.func61 rfl rfl rfl rfl ?_;exact Wz
 rw [zdf C,zcf] at m
 by_cases h2:x.size%16=0
 ·rw [zbe.2 h2] at m;subst m;dsimp only [aKJ];refine aE (ob0:= []) [] Tryz.func61 rfl rfl rfl rfl ?_;exact Wz
 rw [zbn.2 h2,zcf] at m;have j:=j (by omega)
 cases F:sS x.blocks (x.size/16) with
 |true=> rw [F] at m j;subst m;dsimp only [aKJ];refine aE (ob0:= []) [] Tryz.func61 rfl rfl rfl rfl ?_;exact Wz
 |false=>
  rw [F,zcf] at m;rw [F] at j;subst m;dsimp only [aKJ];refine aE (ob0:= []) [] Tryz.func61 rfl rfl rfl rfl ?_
  have O:∀a i:Nat,a<=i->i<2->(2^i-2^a)||| 2^i=2^(i+1)-2^a:=by
   intro a i C h2;have N:∀a i:Fin 2,a.val<=i.val->(2^i.val-2^a.val)||| 2^i.val=2^(i.val+1)-2^a.val:=by decide
   exact N ⟨a,by omega⟩ ⟨i,h2⟩ C
  have M:∀i:Nat,i<=2->2^i<=4:=λi J=>Nat.pow_le_pow_right (n:=2) (by omega) (show i<=2 from J);have T:x.size%16/8<=1:=by omega
  refine Wx ?_;refine Lp (λi:Nat=>x.size%16/8<=i/\i<=2) (λi=> [(9,.int .i64 (i:Int)),(8,.int .i64 ((2^i-2^(x.size%16/8):Nat):Int))]) (λi=> []) (λi=>2-i) (x.size%16/8) ⟨Nat.le_refl _,by omega⟩ ?_ ?_
  ·simp only [Nat.sub_self];exact Vr [_]
  rintro i ⟨K,J⟩;have W:=M i J
  have B:2^2-2^(x.size%16/8)=(bif decide (x.size%16<8) then 3 else 2:Nat):=by
   by_cases Q:x.size%16<8
   ·rw [zdt Q,show x.size%16/8=0 by omega];rfl
   ·rw [zdf Q,show x.size%16/8=1 by omega];rfl
  have e:=O _ i K;generalize 2^(x.size%16/8)=A at *;refine Wx ?_;refine gE (λb=>?_) (λb=>?_)
  ·have b:i<2:=by omega
   have e:=e b;refine Wx ?_;refine Le (i+1) (hv:=?_);simp only [<-e];exact Vr [_]
  obtain rfl:i=2:=by omega
  rw [<-B];exact Wz
def sY(u:Us)(p:Pg):Us:=⟨u.file,u.page,p,u.ten,u.holds,u.rd,u.wr⟩
def dL(c:Dc)(f:Nat)(e:Int):Dc×Int:=match pM (c.fl.getD f aZ) e with
 |none=>(c,0)
 |some (p,s)=>match jP c f p with
  |none=>(c,4)
  |some (m,u)=>bif mW false s u.p.v==0 then(c.put m (sY u (aES u.p s)),0) else(c,7)
theorem bGQ(c:Dc)(h:Ok c)(f:Nat)(e:Int)(z:f<c.fl.length):aM Tryz.prog 123 [] [.agg c.c,.int .i64 (f:Int),.int .i64 e] (.tup [.agg (dL c f e).1.c,.int .i64 (dL c f e).2]) []:=by
 have D:=bQZ c h f e z;generalize j:dL c f e=q;unfold dL at j;have N:=(h.file f z).size
 cases E:pM (c.fl.getD f aZ) e with
 |none=> rw [E] at j D;subst j;refine aE (ob0:= []) [] Tryz.func123 rfl rfl rfl rfl ?_;exact Wz
 |some x=>
  obtain⟨p,s⟩:=x;rw [E] at j D;dsimp only at j;obtain⟨Y,Z,J,t4,t5⟩:=aB0 E N
  cases B:jP c f p with
  |none=> have F:=h.f33n z B;rw [B] at j;subst j;refine aE (ob0:= []) [] Tryz.func123 rfl rfl rfl rfl ?_;exact Wz
  |some x=>
   obtain⟨m,u⟩:=x;have F:=h.f33s z B;obtain⟨q1,q2,R,T,W⟩:=dH h z B;have C:=h.use m u q1 q2;have K:=qA q1 q2;have M:=h.nr;have Q:=C.pg.v;have O:=jD (x:=s) (y:=u.p.v) (by omega) (by omega);have H:=aZX u.p C.pg s J;have G:=h.p155 (u':=sY u (aES u.p s)) q1 q2 rfl (aCE C.pg J) C.rd C.wr;rw [B] at j;dsimp only at j;generalize mW false s u.p.v=y at *;refine aE (ob0:= []) [] Tryz.func123 rfl rfl rfl rfl ?_;refine Wx ?_;refine bCO (λd=>?_) (λd=>?_)
   ·rw [show(y==0)=false from zbn.2 (by omega)] at j;subst j;exact Wz
   ·rw [show(y==0)=true from zbe.2 (by omega)] at j;subst j;exact Wz
end Go.Proofs.YtmhapcbjjpadnaaGreat
