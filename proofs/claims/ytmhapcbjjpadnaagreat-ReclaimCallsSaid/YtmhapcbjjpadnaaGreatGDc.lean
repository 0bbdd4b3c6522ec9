/- Caches. -/
import Derived.Test.YtmhapcbjjpadnaaGreatG8c
import Derived.Test.YtmhapcbjjpadnaaGreatG7c
import Derived.Test.YtmhapcbjjpadnaaGreatG9c
import Derived.Test.YtmhapcbjjpadnaaGreatGBc
set_option linter.all false
set_option maxHeartbeats 1000000
set_option maxRecDepth 40000
open Bool renaming cond_false_right→zA,cond_true_left→zD,not_eq_false'→zE,not_eq_true'→zF,not_not→zG
open Int renaming toNat_natCast→zI
open List renaming length_set→zC,getD_eq_getElem?_getD→zH
open Nat renaming le_refl→zJ
namespace Go.Proofs.YtmhapcbjjpadnaaGreat
open Go Go.Sk Go.RowKit
def mB(s:Int):Int×Bool:=bif decide (0<=s)||decide (s< -1000001) then(0,false) else(-s-1,true)
def aGR(c s:Int):Int×Int:=bif (bif !(mB s).2 then true else decide (c<=(mB s).1)) then(0,1) else(c- (mB s).1,0)
def bC7(c s n:Int):Bool:=bif (aGR c s).2==0 then decide ((aGR c s).1<=n) else false
theorem aX1 {s:Int} (h:(mB s).2=true):0<=(mB s).1/\(mB s).1<=1000000:=by
 revert h;unfold mB
 cases h:(decide (0<=s)||decide (s< -1000001)) with
 |true=>intro h;cases h
 |false=>
  intro _;simp only [zcf]
  by_cases e:0<=s
  ·rw [zdt e] at h;cases h
  ·rw [zdf e,Bool.false_or,zdn] at h;omega
theorem bPG(c:Int)(e:0<=c)(f:c<=1000000):aM Tryz.prog 243 [] [.int .i64 c] (.bool true) []:=by refine cK Tryz.func243 ?_;refine Wk ?_;rw [show decide ((0:Int)<=c)=true from zdt e,show decide (c<=1000000)=true from zdt f];exact Lf
theorem bTD(c:Int)(e:0<=c)(f:c<=1000000):aM Tryz.prog 71 [] [.int .i64 c] (.tup [.int .i64 (0- (c+1)),.int .i64 0]) []:=by refine cK Tryz.func71 ?_;refine Wk ?_;rw [show decide (c<0)=false from zdf (by omega),show decide ((1000000:Int)<c)=false from zdf (by omega)];refine Wk ?_;rw [aP (n:=c+1) (by omega) (by omega),aP (n:=0- (c+1)) (by omega) (by omega)];exact Lf
theorem bOS(c:Int)(e:0<=c)(f:c<=1000000):aM Tryz.prog 152 [] [.int .i64 c] (.tup [.int .i64 (0- (c+1)),.int .i64 0]) []:=by refine cK Tryz.func152 ?_;refine cO (bPG c e f) ?_;rw [aP (n:=c+1) (by omega) (by omega),aP (n:=0- (c+1)) (by omega) (by omega)];exact Lf
theorem bPW(s:Int):aM Tryz.prog 280 [] [.int .i64 s] (.tup [.int .i64 (mB s).1,.bool (mB s).2]) []:=by
 generalize e:mB s=q;unfold mB at e;refine cK Tryz.func280 ?_;refine Wk ?_;refine aC (λf=>?_) (λf=>?_)<;> try simp only [zD,zA,zF,zE,zG] at f
 ·rw [f,zct] at e;subst e;refine Wk ?_
  try subst e
  exact Lf
 have j:0-s-1= -s-1/\-(1000001:Int)<=s/\s<=0:=by
  by_cases m:0<=s
  ·rw [zdt m] at f;cases f
  ·rw [zdf m,Bool.false_or,zdn] at f;omega
 obtain⟨j,z,B⟩:=j;rw [f,zcf] at e;subst e;refine Wk ?_;rw [aP (n:=0-s) (by omega) (by omega),aP (n:=0-s-1) (by omega) (by omega),j]
 try subst e
 exact Lf
theorem bP1(c s:Int)(z:0<=c)(B:c<=1000000):aM Tryz.prog 179 [] [.int .i64 c,.int .i64 s] (.tup [.int .i64 (aGR c s).1,.int .i64 (aGR c s).2]) []:=by
 generalize f:aGR c s=q;unfold aGR at f;have e:=bPW s;have j:=aX1 (s:=s);generalize(mB s).1=t at e j f;generalize(mB s).2=o at e j f;generalize m:(bif !o then true else decide (c<=t))=w at f;refine cK Tryz.func179 ?_;refine Wk ?_;rw [show decide (c<0)=false from zdf (by omega),show decide ((1000000:Int)<c)=false from zdf (by omega)];refine cO e ?_;rw [show(bif !o then true else decide (c<=t))=w from m]
 cases w with
 |true=>
  rw [zct] at f;subst f;refine Wk ?_
  try subst f
  exact Lf
 |false=>
  rw [zcf] at f;subst f;have C:=j (by cases o;cases m;rfl)
  refine Wk ?_;rw [aP (n:=c-t) (by omega) (by omega)]
  try subst f
  exact Lf
theorem bTE(c s n:Int)(e:0<=c)(f:c<=1000000):aM Tryz.prog 72 [] [.int .i64 c,.int .i64 s,.int .i64 n] (.bool (bC7 c s n)) []:=by have k:=bP1 c s e f;unfold bC7;generalize aGR c s=q at k⊢;refine cK Tryz.func72 ?_;refine cO k ?_;exact Lf
def aNG(g:List Gr)(t:Nat)(n:Int):List Gr:=g.set t ⟨(g.getD t g0).lim,(g.getD t g0).pro,n⟩
theorem tN(g:List Gr)(t:Nat)(n:Int):(aNG g t n).length=g.length:=zC ..
theorem aGW {g:List Gr} (h:mY g=true) {t:Nat} (f:t<g.length):(1<=(g.getD t g0).lim/\(g.getD t g0).lim<=64)/\0<=(g.getD t g0).chg/\(g.getD t g0).chg<=64:=by simp only [mY,Bool.and_eq_true] at h;have e:=iV h.1 f;unfold nS at e;simp only [aIR,Bool.or_eq_false_iff,zdn] at e;omega
theorem aTU(g:List Gr)(t:Nat)(n:Int)(h:t<g.length):(aQ g).set t (aS 3 ((aQ g).getD t []) 2 [.int .i64 n])=aQ (aNG g t n):=by
 have e:(aQ g).getD t []=(g.getD t g0).c:=by have :=cY g t h;rwa [zI] at this
 rw [aNG,e,<-aWR];rfl
theorem bH4(g:List Gr)(t:Nat)(n:Int)(e:t<g.length)(f:g.length<=100000):aM Tryz.prog 215 [] [.lst 3 false (aQ g),.int .i64 (t:Int),.int .i64 n] (.lst 3 false (aQ (aNG g t n))) []:=by
 refine cK Tryz.func215 ?_;refine Wk ?_;refine cA (by rw [aL];omega) (by rw [aL];omega) ?_;refine Wk ?_;rw [aL,show decide (0<=(t:Int)/\(t:Int)< (g.length:Int))=true from zdt ⟨by omega,by omega⟩];refine Wk ?_;rw [show 0+(t:Int).toNat=t by omega,show decide (t< (aQ g).length)=true from zdt (by rw [aL];exact e)];refine Wk ?_;refine⟨[],trivial,rfl,trivial,rfl,?_⟩
 repeat' (first |exact trivial |rfl |exact .inl rfl |exact .inr rfl |exact id |exact zbc |apply And.intro)
 ·rw [zC,aL];omega
 ·exact cF (aTU g t n e) (by rw [zC,aL])
def eY(g:List Gr)(t:Nat):List Gr×Int:=bif decide ((g.getD t g0).lim- (g.getD t g0).chg<1) then(g,3) else(aNG g t ((g.getD t g0).chg+1),0)
def iK(g:List Gr)(t:Nat):List Gr×Int:=bif decide ((g.getD t g0).chg<1) then(g,4) else(aNG g t ((g.getD t g0).chg-1),0)
theorem bOH(g:List Gr)(t:Nat)(z:t<g.length)(hg:mY g=true):aM Tryz.prog 116 [] [.lst 3 false (aQ g),.int .i64 (t:Int),.int .i64 1] (.tup [.lst 3 false (aQ (eY g t).1),.int .i64 (eY g t).2]) []:=by
 have D:=(lD hg).2;have j:=aTG g false (by omega);rw [hg] at j;obtain⟨C,h2⟩:=aGW hg z;have e:=cY g t z;have m:=bH4 g t ((g.getD t g0).chg+1) z (by omega);generalize f:eY g t=q;unfold eY at f;generalize g.getD t g0=x at C h2 e m f;refine cK Tryz.func116 ?_;refine cO j ?_;rw [aL,show decide ((t:Int)<0)=false from zdf (by omega),show decide ((g.length:Int)<=(t:Int))=false from zdf (by omega)];refine Wk ?_
 refine⟨λ_=>⟨rfl,by omega,by rw [aL];omega⟩,?_⟩;rw [e];refine Wk ?_;refine⟨λ_=>⟨rfl,by omega,by rw [aL];omega⟩,?_⟩;rw [e];refine Wk ?_;rw [aP (n:=x.lim-x.chg) (by omega) (by omega)];refine aC (λB=>?_) (λB=>?_)<;> try simp only [zD,zA,zF,zE,zG] at B
 ·rw [B,zct] at f;subst f;refine Wk ?_
  try subst f
  exact Lf
 rw [B,zcf] at f;subst f;refine Wk ?_;refine aG (⟨rfl,by omega,by rw [aL];omega⟩) ?_;rw [e];refine Wk ?_;rw [aP (n:=x.chg+1) (by omega) (by omega)];refine cO m ?_
 try subst f
 exact Lf
theorem bPN(g:List Gr)(t:Nat)(z:t<g.length)(hg:mY g=true):aM Tryz.prog 250 [] [.lst 3 false (aQ g),.int .i64 (t:Int),.int .i64 1] (.tup [.lst 3 false (aQ (iK g t).1),.int .i64 (iK g t).2]) []:=by
 have D:=(lD hg).2;have j:=aTG g false (by omega);rw [hg] at j;obtain⟨C,h2⟩:=aGW hg z;have e:=cY g t z;have m:=bH4 g t ((g.getD t g0).chg-1) z (by omega);generalize f:iK g t=q;unfold iK at f;generalize g.getD t g0=x at C h2 e m f;refine cK Tryz.func250 ?_;refine cO j ?_;rw [aL,show decide ((t:Int)<0)=false from zdf (by omega),show decide ((g.length:Int)<=(t:Int))=false from zdf (by omega)];refine Wk ?_
 refine aG (⟨rfl,by omega,by rw [aL];omega⟩) ?_;rw [e];refine Wk ?_;refine aC (λB=>?_) (λB=>?_)<;> try simp only [zD,zA,zF,zE,zG] at B
 ·rw [B,zct] at f;subst f;refine Wk ?_
  try subst f
  exact Lf
 rw [B,zcf] at f;subst f;refine Wk ?_;refine aG (⟨rfl,by omega,by rw [aL];omega⟩) ?_;rw [e];refine Wk ?_;rw [aP (n:=x.chg-1) (by omega) (by omega)];refine cO m ?_
 try subst f
 exact Lf
theorem bPD(g:List Gr)(t:Nat)(j:t<g.length)(hg:mY g=true):aM Tryz.prog 234 [] [.lst 3 false (aQ g),.int .i64 (t:Int),.int .i64 1] (.int .i64 0) []:=by have f:=(lD hg).2;have e:=bGS g false (by omega);rw [hg] at e;refine cK Tryz.func234 ?_;refine cO e ?_;rw [aL,show decide ((t:Int)<0)=false from zdf (by omega),show decide ((g.length:Int)<=(t:Int))=false from zdf (by omega)];refine Wk ?_;exact Lf
theorem bPI(g:List Gr)(t:Nat)(z:t<g.length)(hg:mY g=true):aM Tryz.prog 246 [] [.lst 3 false (aQ g),.int .i64 (t:Int),.int .i64 1] (.tup [.lst 3 false (aQ (iK g t).1),.int .i64 (iK g t).2]) []:=by
 have F:=(lD hg).2;have C:=bPD g t z hg;obtain⟨E,h2⟩:=aGW hg z;have e:=cY g t z;have j:(aQ g).getD t []=(g.getD t g0).c:=by rwa [zI] at e
 have f:=λn=>aTU g t n z;have B:=aTI (aQ g) false (by rw [aL];omega);generalize m:iK g t=q;unfold iK at m;rw [j] at f;generalize g.getD t g0=x at E h2 e j f m;refine cK Tryz.func246 ?_;refine Wk ?_;refine .inr ⟨λ_=>⟨[],_,_,_,B,trivial,rfl,rfl,rfl,?_⟩,(by intro h;cases h)⟩
 refine cO C ?_;refine aG (⟨rfl,by omega,by rw [aL];omega⟩) ?_;rw [e];refine Wk ?_;refine aC (λD=>?_) (λD=>?_)<;> try simp only [zD,zA,zF,zE,zG] at D
 ·rw [D,zct] at m;subst m;refine Wk ?_;refine⟨[],trivial,rfl,trivial,rfl,?_⟩
  try subst m
  repeat' (first |exact trivial |rfl |exact .inl rfl |exact .inr rfl |exact id |exact zbc |apply And.intro)
  ·omega
  ·exact cF rfl rfl
 rw [D,zcf] at m;subst m;refine Wk ?_;rw [aL,show decide (0<=(t:Int)/\(t:Int)< (g.length:Int))=true from zdt ⟨by omega,by omega⟩];refine Wk ?_;rw [show 0+(t:Int).toNat=t by omega,show decide (t< (aQ g).length)=true from zdt (by rw [aL];exact z),j];refine Wk ?_;rw [aP (n:=x.chg-1) (by omega) (by omega)];refine Wk ?_;rw [show decide (0<=(t:Int)/\(t:Int)< (g.length:Int))=true from zdt ⟨by omega,by omega⟩];refine Wk ?_
 rw [show 0+(t:Int).toNat=t by omega,show decide (t< (aQ g).length)=true from zdt (by rw [aL];exact z),j];refine Wk ?_;refine⟨[],trivial,rfl,trivial,rfl,?_⟩
 try subst m
 repeat' (first |exact trivial |rfl |exact .inl rfl |exact .inr rfl |exact id |exact zbc |apply And.intro)
 ·rw [zC,aL];omega
 ·exact cF (f _) (by rw [zC,aL])
structure Pg where
 b:ByteArray
 v:Nat
 d:Nat
def Pg.c(p:Pg):List V:= [.str p.b,.int .i64 (p.v:Int),.int .i64 (p.d:Int)]
structure fQ(p:Pg):Prop where
 size:p.b.size=16
 v:p.v<4
 d:p.d<4
 sub:mW false p.d p.v=0
def z16:ByteArray:=⟨#[0,0,0,0,0,0,0,0,0,0,0,0,0,0,0,0]⟩
theorem aCQ {x y:Nat} (f:x<8)(j:y<8):gC .and .i64 (x:Int) (y:Int)=((x &&& y:Nat):Int):=by
 have e:∀a:Fin 8,∀b:Fin 8,gC .and .i64 (a.val:Int) (b.val:Int)=((a.val &&& b.val:Nat):Int):=by decide
 exact e ⟨x,f⟩ ⟨y,j⟩
theorem bOK:aM Tryz.prog 120 [] [] (.agg (Pg.mk z16 0 0).c) []:=run_eq E1 40 (by kernel_rfl)
theorem bOL:aM Tryz.prog 122 [] [] (.agg (Pg.mk z16 3 0).c) []:=run_eq E1 40 (by kernel_rfl)
theorem aTM(p:Pg)(h:fQ p):aM Tryz.prog 260 [] [.agg p.c] (.bool true) []:=by
 obtain⟨b,v,d⟩:=p;obtain⟨f,h2,j,h4⟩:=h;dsimp only at f h2 j h4;have e:=jD (x:=d) (y:=v) (by omega) (by omega);rw [h4] at e;show aM Tryz.prog 260 [] [.agg [.str b,.int .i64 (v:Int),.int .i64 (d:Int)]] (.bool true) [];refine cK Tryz.func260 ?_;refine Wk ?_
 rw [e,show((b.size:Int)==16)=true from zbe.2 (by omega),show decide ((0:Int)<=(v:Int))=true from zdt (by omega),show decide ((v:Int)<=3)=true from zdt (by omega),show decide ((0:Int)<=(d:Int))=true from zdt (by omega),show decide ((d:Int)<=3)=true from zdt (by omega)];exact Lf
def aES(p:Pg)(s:Nat):Pg:=⟨p.b,p.v,p.d ||| (s &&& p.v)⟩
def aQJ(p:Pg)(s:Nat):Pg:=⟨p.b,p.v,mW false p.d s⟩
theorem aZX(p:Pg)(h:fQ p)(s:Nat)(z:s<4):aM Tryz.prog 176 [] [.agg p.c,.int .i64 (s:Int)] (.tup [.agg (aES p s).c,.int .i64 0]) []:=by
 have e:=aTM p h;obtain⟨b,v,d⟩:=p;obtain⟨f,h2,j,h4⟩:=h;dsimp only at f h2 j h4;show aM Tryz.prog 176 [] [.agg [.str b,.int .i64 (v:Int),.int .i64 (d:Int)],.int .i64 (s:Int)] (.tup [.agg [.str b,.int .i64 (v:Int),.int .i64 ((d ||| (s &&& v):Nat):Int)],.int .i64 0]) []
 refine cK Tryz.func176 ?_;refine cO e ?_;rw [show decide ((s:Int)<0)=false from zdf (by omega),show decide ((3:Int)< (s:Int))=false from zdf (by omega)];refine Wk ?_;rw [aCQ (x:=s) (y:=v) (by omega) (by omega),fU (x:=d) (y:=s &&& v) (by omega) (by have :=Nat.and_le_right (n:=s) (m:=v);omega)];exact Lf
theorem bPU(p:Pg)(h:fQ p)(s:Nat)(m:s<4):aM Tryz.prog 278 [] [.agg p.c,.int .i64 (s:Int)] (.tup [.agg (aQJ p s).c,.int .i64 0]) []:=by
 have e:=aTM p h;obtain⟨b,v,d⟩:=p;obtain⟨f,h2,j,h4⟩:=h;dsimp only at f h2 j h4;show aM Tryz.prog 278 [] [.agg [.str b,.int .i64 (v:Int),.int .i64 (d:Int)],.int .i64 (s:Int)] (.tup [.agg [.str b,.int .i64 (v:Int),.int .i64 ((mW false d s:Nat):Int)],.int .i64 0]) [];refine cK Tryz.func278 ?_;refine cO e ?_;rw [show decide ((s:Int)<0)=false from zdf (by omega),show decide ((3:Int)< (s:Int))=false from zdf (by omega)];refine Wk ?_
 rw [jD (x:=d) (y:=s) (by omega) (by omega)];exact Lf
theorem aCE {p:Pg} (h:fQ p) {s:Nat} (j:s<4):fQ (aES p s):=by
 have e:∀v d s:Fin 4,mW false d.val v.val=0->(d.val ||| (s.val &&& v.val))<4/\mW false (d.val ||| (s.val &&& v.val)) v.val=0:=by decide
 obtain⟨h5,f⟩:=e ⟨p.v,h.v⟩ ⟨p.d,h.d⟩ ⟨s,j⟩ h.sub;exact⟨h.size,h.v,h5,f⟩
theorem aJ8 {p:Pg} (h:fQ p) {s:Nat} (j:s<4):fQ (aQJ p s):=by
 have e:∀v d s:Fin 4,mW false d.val v.val=0->mW false d.val s.val<4/\mW false (mW false d.val s.val) v.val=0:=by decide
 obtain⟨h5,f⟩:=e ⟨p.v,h.v⟩ ⟨p.d,h.d⟩ ⟨s,j⟩ h.sub;exact⟨h.size,h.v,h5,f⟩
def aF7(off n a:Nat):Nat->Nat
 |0=>0
 |j+1=>aF7 off n a j+bif decide (off<=a+j)&&decide (a+j<off+n) then 1 else 0
def aML(off n:Nat):Nat->Nat
 |0=>0
 |k+1=>bif decide (0<aF7 off n (k*8) 8) then aML off n k ||| 2^k else aML off n k
def aL4(off n:Nat):Nat->Nat
 |0=>0
 |k+1=>bif aF7 off n (k*8) 8==8 then aL4 off n k ||| 2^k else aL4 off n k
def tch(off n:Nat):Nat:=aML off n 2
def cov(off n:Nat):Nat:=aL4 off n 2
theorem aSH(off n a:Nat):∀j,aF7 off n a j<=j
 |0=>zJ 0
 |j+1=>by have :=aSH off n a j;rw [aF7];cases(decide (off<=a+j)&&decide (a+j<off+n))<;> simp <;> omega
theorem aG2(off n:Nat) {k:Nat} (j:k<=2):aML off n k<4/\aL4 off n k<4:=by
 have f:∀x y:Bool,(bif y then(bif x then 0 ||| 2^0 else 0)||| 2^1 else(bif x then 0 ||| 2^0 else 0))<4:=by decide
 have e:∀x:Bool,(bif x then 0 ||| 2^0 else 0)<4:=by decide
 match k,j with
 |0,_=>exact⟨by show 0<4;decide,by show 0<4;decide⟩
 |1,_=>exact⟨e _,e _⟩
 |2,_=>exact⟨f _ _,f _ _⟩
theorem bB8 {k:Nat} (e:k<2):IntKind.i64.wrap (1*2^min (k:Int).toNat IntKind.i64.bits)=((2^k:Nat):Int):=by
 match k,e with
 |0,_=>decide
 |1,_=>decide
theorem bHD(off n:Nat)(h:off+n<=16):aM Tryz.prog 264 [] [.int .i64 (off:Int),.int .i64 (n:Int)] (.tup [.int .i64 (tch off n:Int),.int .i64 (cov off n:Int)]) []:=by
 unfold tch cov;refine cK Tryz.func264 ?_;refine Wk ?_;refine⟨Nat,λk=>k<=2,λk=>⟨[(0,⟨[],true,.int .i64 (off:Int)⟩),(1,⟨[],true,.int .i64 (n:Int)⟩),(6,⟨[],true,.int .i64 (aML off n k:Int)⟩),(7,⟨[],true,.int .i64 (aL4 off n k:Int)⟩),(8,⟨[],true,.int .i64 (k:Int)⟩)],[],0⟩,λk=>2-k,⟨0,Nat.zero_le _,?_⟩,λk E=>?_⟩
 ·exact Vw []
 dsimp only at E⊢;refine Wk ?_;refine aC (λm=>?_) (λm=>?_)<;> try simp only [zD,zA,zF,zE,zG] at m
 ·have m:k<2:=by simp at m;omega
  obtain⟨J,H⟩:=aG2 off n E;refine Wk ?_;rw [aP (n:=(k:Int)*8) (by omega) (by omega),show(k:Int)*8=((k*8+0:Nat):Int) by omega];refine Wk ?_;refine⟨Nat,λj=>j<=8,λj=>⟨[(0,⟨[],true,.int .i64 (off:Int)⟩),(1,⟨[],true,.int .i64 (n:Int)⟩),(6,⟨[],true,.int .i64 (aML off n k:Int)⟩),(7,⟨[],true,.int .i64 (aL4 off n k:Int)⟩),(8,⟨[],true,.int .i64 (k:Int)⟩),(9,⟨[],true,.int .i64 (aF7 off n (k*8) j:Int)⟩),(10,⟨[],true,.int .i64 ((k*8+j:Nat):Int)⟩)],[],0⟩,λj=>8-j,⟨0,Nat.zero_le _,?_⟩,λj G=>?_⟩
  ·exact Vw []
  dsimp only at G⊢;have C:=aSH off n (k*8) j;refine Wk ?_;rw [aP (n:=(k:Int)+1) (by omega) (by omega),aP (n:=((k:Int)+1)*8) (by omega) (by omega)];refine aC (λB=>?_) (λB=>?_)<;> try simp only [zD,zA,zF,zE,zG] at B
  ·have B:j<8:=by simp at B;omega
   have f:aF7 off n (k*8) (j+1)=aF7 off n (k*8) j+bif decide (off<=k*8+j)&&decide (k*8+j<off+n) then 1 else 0:=rfl
   refine Wk ?_;rw [aP (n:=(off:Int)+(n:Int)) (by omega) (by omega),show(bif decide ((off:Int)<=((k*8+j:Nat):Int)) then decide (((k*8+j:Nat):Int)< (off:Int)+(n:Int)) else false)=(decide (off<=k*8+j)&&decide (k*8+j<off+n)) by rw [show decide ((off:Int)<=((k*8+j:Nat):Int))=decide (off<=k*8+j) from decide_eq_decide.2 (by omega),show decide (((k*8+j:Nat):Int)< (off:Int)+(n:Int))=decide (k*8+j<off+n) from decide_eq_decide.2 (by omega)];cases decide (off<=k*8+j)<;> rfl]
   cases F:(decide (off<=k*8+j)&&decide (k*8+j<off+n)) with
   |true=> rw [F,zct] at f;refine Wk ?_;rw [aP (n:=((aF7 off n (k*8) j:Nat):Int)+1) (by omega) (by omega),aP (n:=((k*8+j:Nat):Int)+1) (by omega) (by omega)];refine⟨j+1,by show j+1<=8;omega,?_,by show 8- (j+1)<8-j;omega⟩;dsimp only;rw [f];exact Vw []
   |false=> rw [F,zcf,Nat.add_zero] at f;refine Wk ?_;rw [aP (n:=((k*8+j:Nat):Int)+1) (by omega) (by omega)];refine⟨j+1,by show j+1<=8;omega,?_,by show 8- (j+1)<8-j;omega⟩;dsimp only;rw [f];exact Vw []
  have B:j=8:=by simp at B;omega
  subst B;have e1:aML off n (k+1)=bif decide (0<aF7 off n (k*8) 8) then aML off n k ||| 2^k else aML off n k:=rfl
  have e:aL4 off n (k+1)=bif aF7 off n (k*8) 8==8 then aL4 off n k ||| 2^k else aL4 off n k:=rfl
  have z:2^k<8:=by rcases(show k=0\/k=1 by omega) with rfl |rfl <;> decide
  generalize aF7 off n (k*8) 8=c at C e1 e;refine Wk ?_;rw [show decide ((0:Int)< (c:Int))=decide (0<c) from decide_eq_decide.2 (by omega)]
  cases D:decide (0<c) with
  |true=>
   rw [D,zct] at e1;refine Wk ?_;rw [bB8 m,fU (by omega) z]
   rw [show((c:Int)==8)=(c==8) by cases h4:(c==8) with
    |true=>exact zbe.2 (by have :=zbe.1 h4;omega)
    |false=>exact zbn.2 (by have :=zbn.1 h4;omega)]
   cases h4:(c==8) with
   |true=> rw [h4,zct] at e;refine Wk ?_;rw [bB8 m,fU (by omega) z,eF (by omega)];refine⟨k+1,by show k+1<=2;omega,?_,by show 2- (k+1)<2-k;omega⟩;dsimp only;rw [e1,e];exact Vw []
   |false=> rw [h4,zcf] at e;refine Wk ?_;rw [eF (by omega)];refine⟨k+1,by show k+1<=2;omega,?_,by show 2- (k+1)<2-k;omega⟩;dsimp only;rw [e1,e];exact Vw []
  |false=>
   rw [D,zcf] at e1;refine Wk ?_
   rw [show((c:Int)==8)=(c==8) by cases h4:(c==8) with
    |true=>exact zbe.2 (by have :=zbe.1 h4;omega)
    |false=>exact zbn.2 (by have :=zbn.1 h4;omega)]
   cases h4:(c==8) with
   |true=> rw [h4,zct] at e;refine Wk ?_;rw [bB8 m,fU (by omega) z,eF (by omega)];refine⟨k+1,by show k+1<=2;omega,?_,by show 2- (k+1)<2-k;omega⟩;dsimp only;rw [e1,e];exact Vw []
   |false=> rw [h4,zcf] at e;refine Wk ?_;rw [eF (by omega)];refine⟨k+1,by show k+1<=2;omega,?_,by show 2- (k+1)<2-k;omega⟩;dsimp only;rw [e1,e];exact Vw []
 have m:k=2:=by simp at m;omega
 subst m;refine Wk ?_;exact Lf
def aED(p:Pg)(off n:Nat)(w:Bool):Nat:=mW false (bif w then mW false (tch off n) (cov off n) else tch off n) p.v
theorem bPP(off n:Nat)(h:off+n<=16):aM Tryz.prog 263 [] [.int .i64 (off:Int),.int .i64 (n:Int)] (.bool true) []:=by refine cK Tryz.func263 ?_;refine Wk ?_;rw [aP (n:=16- (off:Int)) (by omega) (by omega),show decide ((0:Int)<=(off:Int))=true from zdt (by omega),show decide ((0:Int)<=(n:Int))=true from zdt (by omega),show decide ((off:Int)<=16)=true from zdt (by omega),show decide ((n:Int)<=16- (off:Int))=true from zdt (by omega)];exact Lf
theorem aZW(p:Pg)(h:fQ p)(off n:Nat)(B:off+n<=16)(w:Bool):aM Tryz.prog 164 [] [.agg p.c,.int .i64 (off:Int),.int .i64 (n:Int),.bool w] (.tup [.int .i64 (aED p off n w:Int),.int .i64 0]) []:=by
 have f:=aTM p h;have j:=bPP off n B;have m:=bHD off n B;obtain⟨h5,z⟩:=aG2 off n (zJ 2);have h5:tch off n<4:=h5;have z:cov off n<4:=z;obtain⟨b,v,d⟩:=p;obtain⟨C,h2,D,h4⟩:=h;dsimp only at C h2 D h4;generalize e:aED ⟨b,v,d⟩ off n w=q;unfold aED at e;dsimp only at e;generalize tch off n=x at *;generalize cov off n=y at *;have E:mW false x y<8:=aXY (by omega) (by omega)
 show aM Tryz.prog 164 [] [.agg [.str b,.int .i64 (v:Int),.int .i64 (d:Int)],.int .i64 (off:Int),.int .i64 (n:Int),.bool w] _ [];refine cK Tryz.func164 ?_;refine Wk3 f j m ?_
 cases w with
 |true=>
  refine Wk ?_;rw [jD (x:=x) (y:=y) (by omega) (by omega)];rw [jD E (by omega)];subst e
  try subst e
  exact Lf
 |false=>
  refine Wk ?_;rw [jD (x:=x) (y:=v) (by omega) (by omega)];subst e
  try subst e
  exact Lf
def aIO(b:ByteArray)(off:Nat)(s:ByteArray):ByteArray:=b.extract 0 off++s++b.extract (off+s.size) b.size
def vB(p:Pg)(off:Nat)(s:ByteArray):Pg:=⟨aIO p.b off s,p.v ||| tch off s.size,p.d ||| tch off s.size⟩
theorem qK(b:ByteArray)(i j:Nat):(b.extract i j).size=min j b.size-i:=by simp [ByteArray.size_extract]
theorem aGG(a b:ByteArray):(a++b).size=a.size+b.size:=ByteArray.size_append
theorem bH8(p:Pg)(h:fQ p)(off:Nat)(s:ByteArray)(j:off+s.size<=16)(B:aED p off s.size true=0):aM Tryz.prog 220 [] [.agg p.c,.int .i64 (off:Int),.str s] (.tup [.agg (vB p off s).c,.int .i64 0]) []:=by
 have e:=aZW p h off s.size j true;have f:=bHD off s.size j;rw [B] at e;obtain⟨h5,C⟩:=aG2 off s.size (zJ 2);have h5:tch off s.size<4:=h5;obtain⟨b,v,d⟩:=p;obtain⟨m,h2,z,h4⟩:=h;dsimp only at m h2 z h4;show aM Tryz.prog 220 [] [.agg [.str b,.int .i64 (v:Int),.int .i64 (d:Int)],.int .i64 (off:Int),.str s] (.tup [.agg [.str (aIO b off s),.int .i64 ((v ||| tch off s.size:Nat):Int),.int .i64 ((d ||| tch off s.size:Nat):Int)],.int .i64 0]) []
 generalize tch off s.size=x at *;refine cK Tryz.func220 ?_;refine Wk2 e f ?_;refine⟨λ_=>⟨by omega,by omega,by omega⟩,?_⟩;refine Wk ?_;refine⟨λ_=>by rw [qK];omega,?_⟩;refine Wk ?_;rw [aP (n:=(off:Int)+(s.size:Int)) (by omega) (by omega),show(off:Int)+(s.size:Int)=((off+s.size:Nat):Int) by omega];refine Wk ?_;refine⟨λ_=>⟨by omega,by omega,by omega⟩,?_⟩;refine Wk ?_;refine⟨λ_=>by rw [aGG,qK,qK];omega,?_⟩;refine Wk ?_;rw [fU (x:=v) (by omega) (by omega)];refine Wk ?_
 rw [fU (x:=d) (by omega) (by omega)];refine Wk ?_;exact Lf
structure Df where
 dev:Int
 slot:Int
 E:dJ
 size:Nat
 blocks:Nat
 ec:Int
 ee:Int
def Df.c(f:Df):List V:= [.int .i64 f.dev,.int .i64 f.slot]++can f.E++ [.int .i64 (f.size:Int),.int .i64 (f.blocks:Int),.int .i64 f.ec,.int .i64 f.ee,.int .i64 0,.int .i64 0,.int .i64 0,.int .i64 0,.int .i64 0]
structure Us where
 file:Nat
 page:Nat
 p:Pg
 ten:Nat
 holds:Nat
 rd:Nat
 wr:Nat
def Us.c(u:Us):List V:= [.int .i64 (u.file:Int),.int .i64 (u.page:Int),.str u.p.b,.int .i64 (u.p.v:Int),.int .i64 (u.p.d:Int),.int .i64 (u.ten:Int),.int .i64 (u.holds:Int),.int .i64 (u.rd:Int),.int .i64 (u.wr:Int)]
def frC(o:Option Us):List V:=match o with
 |none=>fre.c
 |some u=>u.c
structure Dc where
 fl:List Df
 fr:List (Option Us)
 zo:List Zn
 gr:List Gr
 ls:List Ls
 ck:List Int
 pt:List Pt
def aX(L:List Df):List (List V):=L.map Df.c
def aO(L:List (Option Us)):List (List V):=L.map frC
def Dc.c(c:Dc):List V:= [.lst 15 false (aX c.fl),.lst 9 false (aO c.fr),.lst 6 false (aK c.zo),.lst 3 false (aQ c.gr),.lst 3 false (aU c.ls),.lst 1 false (aB c.ck),.lst 5 false (aN c.pt)]
theorem cP(L:List Df):(aX L).length=L.length:=List.length_map _
theorem bX(L:List (Option Us)):(aO L).length=L.length:=List.length_map _
def Dc.o(c:Dc):List V:= [.sl 0 0 c.fl.length,.sl 1 0 c.fr.length,.lst 6 false (aK c.zo),.sl 2 0 c.gr.length,.sl 3 0 c.ls.length,.sl 4 0 c.ck.length,.lst 5 false (aN c.pt)]
def Dc.ob(c:Dc):List Sk.Obj:= [.row 15 (aX c.fl),.row 9 (aO c.fr),.row 3 (aQ c.gr),.row 3 (aU c.ls),.row 1 (aB c.ck)]
structure SmD(c:Dc):Prop where
 fl:c.fl.length<=8
 fr:c.fr.length<=64
 gr:c.gr.length<=4
 ls:c.ls.length<=4
 ck:c.ck.length<=4
theorem aIV(c:Dc)(h:SmD c):aM Tryz.prog 85 [] [.agg c.c] (.agg c.o) c.ob:=by
 obtain⟨f,j,B,gr,m,e,z⟩:=c;obtain⟨C,h2,D,h4,h5⟩:=h;dsimp only at C h2 D h4 h5
 show aM Tryz.prog 85 [] [.agg [.lst 15 false (aX f),.lst 9 false (aO j),.lst 6 false (aK B),.lst 3 false (aQ gr),.lst 3 false (aU m),.lst 1 false (aB e),.lst 5 false (aN z)]]
  (.agg [.sl 0 0 f.length,.sl 1 0 j.length,.lst 6 false (aK B),.sl 2 0 gr.length,.sl 3 0 m.length,.sl 4 0 e.length,.lst 5 false (aN z)]) [.row 15 (aX f),.row 9 (aO j),.row 3 (aQ gr),.row 3 (aU m),.row 1 (aB e)]
 refine cK Tryz.func85 ?_;refine Wk ?_;refine cA (by rw [cP];omega) (by rw [cP];omega) ?_;refine Wk ?_;refine cA (by rw [bX];omega) (by rw [bX];omega) ?_;refine Wk ?_;refine cA (by rw [aL];omega) (by rw [aL];omega) ?_;refine Wk ?_;refine cA (by rw [bW];omega) (by rw [bW];omega) ?_;refine Wk ?_;refine cA (by rw [aA];omega) (by rw [aA];omega) ?_;refine Wk ?_;rw [cP,bX,aL,bW,aA];exact⟨[some 2,some 3,some 4,some 5,some 6],Cl,rfl,Cl,rfl,Cl⟩
theorem bRI {k:Nat} (f:k<8):IntKind.i64.wrap (1*2^min (k:Int).toNat IntKind.i64.bits)=((2^k:Nat):Int):=by
 have e:∀k:Fin 8,IntKind.i64.wrap (1*2^min (k.val:Int).toNat IntKind.i64.bits)=((2^k.val:Nat):Int):=by decide
 exact e ⟨k,f⟩
theorem aXP {x k:Nat} (j:x<256)(f:k<8):gC .and .i64 (x:Int) ((2^k:Nat):Int)=((x &&& 2^k:Nat):Int):=by
 have e:∀x:Fin 256,∀k:Fin 8,gC .and .i64 (x.val:Int) ((2^k.val:Nat):Int)=((x.val &&& 2^k.val:Nat):Int):=by decide +kernel
 exact e ⟨x,j⟩ ⟨k,f⟩
def sS(blocks page:Nat):Bool:=((blocks &&& 2^page:Nat):Int)==0
theorem bGP(f:Df)(G:bI f.E)(j:Nat)(B:j<8)(z:f.blocks<256):aM Tryz.prog 121 [] [.agg f.c,.int .i64 (j:Int)] (.bool (sS f.blocks j)) []:=by obtain⟨k0,k1,k2,k3,e⟩:=cH G;obtain⟨F,D,E,C,m,H,J⟩:=f;dsimp only at z e;unfold Df.c;dsimp only;rw [e];refine cK Tryz.func121 ?_;refine Wk ?_;refine⟨λ_=>by omega,?_⟩;refine Wk ?_;rw [bRI B,aXP z B];exact Lf
theorem aHQ(c:Dc)(f:Nat)(z:f<c.fl.length):aM Tryz.prog 115 [] [.agg c.c,.int .i64 (f:Int)] (.bool true) []:=by obtain⟨e,m,D,gr,B,j,C⟩:=c;dsimp only at z;show aM Tryz.prog 115 [] [.agg [.lst 15 false (aX e),.lst 9 false (aO m),.lst 6 false (aK D),.lst 3 false (aQ gr),.lst 3 false (aU B),.lst 1 false (aB j),.lst 5 false (aN C)],.int .i64 (f:Int)] (.bool true) [];refine cK Tryz.func115 ?_;refine Wk ?_;rw [cP,show decide ((0:Int)<=(f:Int))=true from zdt (by omega),show decide ((f:Int)< (e.length:Int))=true from zdt (by omega)];exact Lf
def aZ:Df:=⟨0,0,λ_=>(0,0),0,0,0,0⟩
theorem iD(L:List Df)(k:Nat)(h:k<L.length):(aX L).getD k []=(L.getD k aZ).c:=by simp [aX,zH,h]
theorem cC(L:List (Option Us))(k:Nat)(h:k<L.length):(aO L).getD k []=frC (L.getD k none):=by simp [aO,zH,h]
def mE(E:dJ)(u:Us):dJ:=uI (uI E u.page (u.p.d != 0) 1) u.page (u.wr != 0) 2
theorem uJ(E:dJ)(i m:Nat)(on:Bool)(j:Nat):(uI E i on m j).1=(E j).1:=by
 unfold uI
 by_cases e:j=i
 ·subst e;rw [fV]
 ·rw [eZ e]
theorem Sup.mrk {E:dJ} (h:Sup E) {i m:Nat} {on:Bool} :Sup (uI E i on m):=λj e=>by rw [uJ];exact h j e
theorem bGH {E:dJ} (f:bI E)(j:Sup E) {u:Us} (hv:0< (E u.page).1):bI (mE E u)/\Sup (mE E u):=by have e:=f.mrk (i:=u.page) (m:=1) (on:=(u.p.d != 0)) (by decide) hv;exact⟨e.mrk (i:=u.page) (m:=2) (on:=(u.wr != 0)) (by decide) (by rw [uJ];exact hv),j.mrk.mrk⟩
def iG(f:Df)(E:dJ):Df:=⟨f.dev,f.slot,E,f.size,f.blocks,f.ec,f.ee⟩
theorem aC4(L:List Df)(k:Nat)(E:dJ)(h:k<L.length)(m:bI (L.getD k aZ).E)(f:bI E):(aX L).set k (aS 15 ((aX L).getD k []) 2 (can E))=aX (L.set k (iG (L.getD k aZ) E)):=by
 rw [iD L k h,aX,aX,List.map_set];obtain⟨k0,k1,k2,k3,e⟩:=cH m;obtain⟨z,q1,q2,B,j⟩:=cH f
 congr 1
 unfold Df.c iG;dsimp only;rw [e,j];rfl
structure qF(c:Dc)(n:Nat)(u:Us):Prop where
 at_:n<c.fr.length
 get:c.fr.getD n none=some u
 file:u.file<c.fl.length
 page:u.page<16
 E:bI (c.fl.getD u.file aZ).E
 sup:Sup (c.fl.getD u.file aZ).E
 val:0< ((c.fl.getD u.file aZ).E u.page).1
 pg:fQ u.p
 ten:u.ten<c.ls.length
 rd:u.rd<4
 wr:u.wr<4
def Dc.mark(c:Dc)(u:Us):Dc:=⟨c.fl.set u.file (iG (c.fl.getD u.file aZ) (mE (c.fl.getD u.file aZ).E u)),c.fr,c.zo,c.gr,c.ls,c.ck,c.pt⟩
theorem okb {E:dJ} (e:bI E)(f:Sup E)(i:Nat)(hi:i<16)(m:Nat)(hm:m=1\/m=2\/m=4)(hv:0< (E i).1)(on:Bool):
 aM Tryz.prog (bif on then 319 else 320) [] [.agg (can E),.int .i64 (i:Int),.int .i64 (m:Int)] (.tup [.agg (can (uI E i on m)),.int .i64 0]) []:=by
 cases on
 ·exact bQD e f i hi m hm hv
 ·exact bQC e f i hi m hm hv
theorem bHC(c:Dc)(n:Nat)(u:Us)(hc:SmD c)(h:qF c n u):aM Tryz.prog 252 c.ob [.agg c.o,.int .i64 ((n+1:Nat):Int)] (.agg (c.mark u).o) (c.mark u).ob:=by
 obtain⟨T,h2,H,h4,h5,Q,J,h8,h9,W,Y⟩:=h;obtain⟨C,G,zo,gr,O,M,pt⟩:=c;obtain⟨s1,s2,s3,s4,s5⟩:=hc;dsimp only at T h2 H h5 Q J h9 s1 s2 s3 s4 s5;have D:=cC G n T;rw [h2] at D;have D:(aO G).getD n []=u.c:=D;have F:=iD C u.file H;obtain⟨m1,m2⟩:=bGH h5 Q J;have z:=aC4 C u.file _ H h5 m1;rw [F] at z;unfold Dc.mark;dsimp only;generalize ae:C.getD u.file aZ=f at *
 show aM Tryz.prog 252 [.row 15 (aX C),.row 9 (aO G),.row 3 (aQ gr),.row 3 (aU O),.row 1 (aB M)] [.agg [.sl 0 0 C.length,.sl 1 0 G.length,.lst 6 false (aK zo),.sl 2 0 gr.length,.sl 3 0 O.length,.sl 4 0 M.length,.lst 5 false (aN pt)],.int .i64 ((n+1:Nat):Int)]
  (.agg [.sl 0 0 (C.set u.file (iG f (mE f.E u))).length,.sl 1 0 G.length,.lst 6 false (aK zo),.sl 2 0 gr.length,.sl 3 0 O.length,.sl 4 0 M.length,.lst 5 false (aN pt)]) [.row 15 (aX (C.set u.file (iG f (mE f.E u)))),.row 9 (aO G),.row 3 (aQ gr),.row 3 (aU O),.row 1 (aB M)]
 rw [zC];generalize aX (C.set u.file (iG f (mE f.E u)))=R at z⊢;obtain⟨j,B,⟨b,v,d⟩,ad,holds,rd,K⟩:=u;have D:(aO G).getD n []=[.int .i64 (j:Int),.int .i64 (B:Int),.str b,.int .i64 (v:Int),.int .i64 (d:Int),.int .i64 (ad:Int),.int .i64 (holds:Int),.int .i64 (rd:Int),.int .i64 (K:Int)]:=D;dsimp only [mE] at H h4 J h8 W Y z F m1 m2;obtain⟨k0,k1,k2,k3,e⟩:=cH h5
 have ab:f.c=[.int .i64 f.dev,.int .i64 f.slot,.int .i64 (hgt f.E:Int),.lst k0 k1 k2,.int .i64 k3,.int .i64 (oS f.E 0 (4^hgt f.E):Nat),.int .i64 (f.size:Int),.int .i64 (f.blocks:Int),.int .i64 f.ec,.int .i64 f.ee,.int .i64 0,.int .i64 0,.int .i64 0,.int .i64 0,.int .i64 0]:=by unfold Df.c;rw [e];rfl
 rw [ab] at F z;have Z:=h8.d;dsimp only at Z;refine eT (ob0:= [.row 15 (aX C),.row 9 (aO G),.row 3 (aQ gr),.row 3 (aU O),.row 1 (aB M)]) [] Tryz.func252 rfl rfl rfl rfl ?_;refine Wk ?_;rw [aP (n:=((n+1:Nat):Int)-1) (by omega) (by omega),show((n+1:Nat):Int)-1=(n:Int) by omega,show decide (0<=(n:Int)/\(n:Int)< (G.length:Int))=true from zdt ⟨by omega,by omega⟩];refine Wk ?_
 rw [show 0+(n:Int).toNat=n by omega,show decide (n< (aO G).length)=true from zdt (by rw [bX];exact T),D];refine Wk ?_;rw [show decide (0<=(j:Int)/\(j:Int)< (C.length:Int))=true from zdt ⟨by omega,by omega⟩];refine Wk ?_;rw [show 0+(j:Int).toNat=j by omega,show decide (j< (aX C).length)=true from zdt (by rw [cP];exact H),F];refine Wk ?_
 have aa:(((d:Nat):Int) != 0)=(d != 0):=by
  cases N:(d != 0) with
  |true=>rw [bne_iff_ne] at N⊢;omega
  |false=>rw [bne_eq_false_iff_eq] at N⊢;omega
 have ac:(((K:Nat):Int) != 0)=(K != 0):=by
  cases N:(K != 0) with
  |true=>rw [bne_iff_ne] at N⊢;omega
  |false=>rw [bne_eq_false_iff_eq] at N⊢;omega
 have n1:=h5.mrk (i:=B) (m:=1) (on:=d != 0) (by decide) J;have n2:=Q.mrk (i:=B) (m:=1) (on:=d != 0);have j1:=okb h5 Q B h4 1 (.inl rfl) J (d != 0);have j2:=okb n1 n2 B h4 2 (.inr (.inl rfl)) (by rw [uJ];exact J) (K != 0);obtain⟨p0,p1,p2,p3,e1⟩:=cH n1;obtain⟨r0,r1,r2,r3,e2⟩:=cH m1;rw [e,e1] at j1;rw [e1,e2] at j2;rw [e2] at z;rw [aa];generalize(d != 0)=bd at *;generalize(K != 0)=bw at *;cases bd <;> cases bw
 all_goals
  dsimp only [zct,zcf] at j1 j2;refine cO j1 ?_;rw [ac];refine cO j2 ?_;rw [show decide (0<=(j:Int)/\(j:Int)< (C.length:Int))=true from zdt ⟨by omega,by omega⟩];refine Wk ?_;rw [show 0+(j:Int).toNat=j by omega,show decide (j< (aX C).length)=true from zdt (by rw [cP];exact H),F];refine Wk ?_;refine⟨[some 0,some 1,some 2,some 3,some 4],?_,rfl,?_,rfl,?_⟩
  all_goals repeat' (first |exact trivial |rfl |exact .inl rfl |exact .inr rfl |exact id |exact zbc |apply And.intro)
  exact z
def Dc.setU(c:Dc)(n:Nat)(u:Us):Dc:=⟨c.fl,c.fr.set n (some u),c.zo,c.gr,c.ls,c.ck,c.pt⟩
def Dc.put(c:Dc)(n:Nat)(u:Us):Dc:=(c.setU n u).mark u
theorem aZU(c:Dc)(n:Nat)(u:Us)(j:SmD c)(h:qF (c.setU n u) n u):aM Tryz.prog 155 [] [.agg c.c,.int .i64 ((n+1:Nat):Int),.agg u.c] (.agg (c.put n u).c) []:=by
 have B:n<c.fr.length:=by have :=h.at_;simpa [Dc.setU] using this
 have C:SmD (c.setU n u):=⟨j.fl,by show(c.fr.set n (some u)).length<=64;rw [zC];exact j.fr,j.gr,j.ls,j.ck⟩;have e:=bHC (c.setU n u) n u C h;have D:=aIV c j;unfold Dc.put;obtain⟨G,f,R,gr,M,E,O⟩:=c;have z:=j.fr;dsimp only at B z
 have m:(aO f).set n (aS 9 ((aO f).getD n []) 0 u.c)=aO (f.set n (some u)):=by
  rw [cC f n B];have :aS 9 (frC (f.getD n none)) 0 u.c=u.c:=by cases f.getD n none <;> rfl
  rw [this];unfold aO;rw [List.map_set];rfl
 generalize W:(Dc.setU ⟨G,f,R,gr,M,E,O⟩ n u).mark u=q at e⊢;obtain⟨H,J,T,K,N,F,Q⟩:=q;unfold Dc.o Dc.ob Dc.setU at e;dsimp only at e;rw [zC,<-m] at e;refine cK Tryz.func155 ?_;refine Wk ?_;refine .inr ⟨λ_=>⟨[],_,_,_,D,trivial,rfl,rfl,rfl,?_⟩,(by intro h;cases h)⟩
 refine Wk ?_;rw [aP (n:=((n+1:Nat):Int)-1) (by omega) (by omega),show((n+1:Nat):Int)-1=(n:Int) by omega,show decide (0<=(n:Int)/\(n:Int)< (f.length:Int))=true from zdt ⟨by omega,by omega⟩];refine Wk ?_;rw [show 0+(n:Int).toNat=n by omega,show decide (n< (aO f).length)=true from zdt (by rw [bX];exact B)];refine Wk ?_;refine .inr ⟨λ_=>⟨[3,4,5,6,7],_,_,_,e,⟨rfl,rfl,rfl,rfl,rfl,trivial⟩,rfl,rfl,rfl,?_⟩,(by intro h;cases h)⟩
 refine Wk ?_;refine⟨[],trivial,rfl,trivial,rfl,?_⟩
 repeat' (first |exact trivial |rfl |exact .inl rfl |exact .inr rfl |exact id |exact zbc |apply And.intro)
 all_goals first
  |exact cF rfl (cP _)
  |exact cF rfl (bX _)
  |exact cF rfl (aL _)
  |exact cF rfl (bW _)
  |exact cF rfl (aA _)
  | (rw [cP];omega)
  | (rw [bX];omega)
  | (rw [aL];omega)
  | (rw [bW];omega)
  | (rw [aA];omega)
  |trace_state
end Go.Proofs.YtmhapcbjjpadnaaGreat
