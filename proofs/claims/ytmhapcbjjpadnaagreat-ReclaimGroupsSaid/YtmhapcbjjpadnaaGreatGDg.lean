/- Caches. -/
import Derived.Test.YtmhapcbjjpadnaaGreatG8g
import Derived.Test.YtmhapcbjjpadnaaGreatG7g
import Derived.Test.YtmhapcbjjpadnaaGreatG9g
import Derived.Test.YtmhapcbjjpadnaaGreatGBg
set_option linter.all false
set_option maxHeartbeats 1000000
set_option maxRecDepth 40000
open Bool renaming cond_false_right→zA,cond_true_left→zD,not_eq_false'→zE,not_eq_true'→zF,not_not→zG
open Int renaming toNat_natCast→zI
open List renaming length_set→zC,getD_eq_getElem?_getD→zH
open Nat renaming le_refl→zJ
namespace Go.Proofs.YtmhapcbjjpadnaaGreat
open Go Go.Sk Go.RowKit
def lQ(s:Int):Int×Bool:=bif decide (0<=s)||decide (s< -1000001) then(0,false) else(-s-1,true)
def aG1(c s:Int):Int×Int:=bif (bif !(lQ s).2 then true else decide (c<=(lQ s).1)) then(0,1) else(c- (lQ s).1,0)
def bBS(c s n:Int):Bool:=bif (aG1 c s).2==0 then decide ((aG1 c s).1<=n) else false
theorem aW2 {s:Int} (h:(lQ s).2=true):0<=(lQ s).1/\(lQ s).1<=1000000:=by
 revert h;unfold lQ
 cases h:(decide (0<=s)||decide (s< -1000001)) with
 |true=>intro h;cases h
 |false=>
  intro _;simp only [zcf]
  by_cases h1:0<=s
  ·rw [zdt h1] at h;cases h
  ·rw [zdf h1,Bool.false_or,zdn] at h;omega
theorem bO5(c:Int)(e:0<=c)(h1:c<=1000000):aM Tryz.prog 243 [] [.int .i64 c] (.bool true) []:=by refine cF Tryz.func243 ?_;refine Wk ?_;rw [show decide ((0:Int)<=c)=true from zdt e,show decide (c<=1000000)=true from zdt h1];exact Lf
theorem bRZ(c:Int)(e:0<=c)(h1:c<=1000000):aM Tryz.prog 71 [] [.int .i64 c] (.tup [.int .i64 (0- (c+1)),.int .i64 0]) []:=by refine cF Tryz.func71 ?_;refine Wk ?_;rw [show decide (c<0)=false from zdf (by omega),show decide ((1000000:Int)<c)=false from zdf (by omega)];refine Wk ?_;rw [aN (n:=c+1) (by omega) (by omega),aN (n:=0- (c+1)) (by omega) (by omega)];exact Lf
theorem bNI(c:Int)(e:0<=c)(h1:c<=1000000):aM Tryz.prog 152 [] [.int .i64 c] (.tup [.int .i64 (0- (c+1)),.int .i64 0]) []:=by refine cF Tryz.func152 ?_;refine cL (bO5 c e h1) ?_;rw [aN (n:=c+1) (by omega) (by omega),aN (n:=0- (c+1)) (by omega) (by omega)];exact Lf
theorem bOK(s:Int):aM Tryz.prog 280 [] [.int .i64 s] (.tup [.int .i64 (lQ s).1,.bool (lQ s).2]) []:=by
 generalize e:lQ s=q;unfold lQ at e;refine cF Tryz.func280 ?_;refine Wk ?_;refine aC (λf=>?_) (λf=>?_)<;> try simp only [zD,zA,zF,zE,zG] at f
 ·rw [f,zct] at e;subst e;refine Wk ?_
  try subst e
  exact Lf
 have j:0-s-1= -s-1/\-(1000001:Int)<=s/\s<=0:=by
  by_cases h1:0<=s
  ·rw [zdt h1] at f;cases f
  ·rw [zdf h1,Bool.false_or,zdn] at f;omega
 obtain⟨j,m,z⟩:=j;rw [f,zcf] at e;subst e;refine Wk ?_;rw [aN (n:=0-s) (by omega) (by omega),aN (n:=0-s-1) (by omega) (by omega),j]
 try subst e
 exact Lf
theorem bNR(c s:Int)(z:0<=c)(h1:c<=1000000):aM Tryz.prog 179 [] [.int .i64 c,.int .i64 s] (.tup [.int .i64 (aG1 c s).1,.int .i64 (aG1 c s).2]) []:=by
 generalize f:aG1 c s=q;unfold aG1 at f;have e:=bOK s;have j:=aW2 (s:=s);generalize(lQ s).1=t at e j f;generalize(lQ s).2=o at e j f;generalize m:(bif !o then true else decide (c<=t))=w at f;refine cF Tryz.func179 ?_;refine Wk ?_;rw [show decide (c<0)=false from zdf (by omega),show decide ((1000000:Int)<c)=false from zdf (by omega)];refine cL e ?_;rw [show(bif !o then true else decide (c<=t))=w from m]
 cases w with
 |true=>
  rw [zct] at f;subst f;refine Wk ?_
  try subst f
  exact Lf
 |false=>
  rw [zcf] at f;subst f;have B:=j (by cases o;cases m;rfl)
  refine Wk ?_;rw [aN (n:=c-t) (by omega) (by omega)]
  try subst f
  exact Lf
theorem bS0(c s n:Int)(e:0<=c)(h1:c<=1000000):aM Tryz.prog 72 [] [.int .i64 c,.int .i64 s,.int .i64 n] (.bool (bBS c s n)) []:=by have k:=bNR c s e h1;unfold bBS;generalize aG1 c s=q at k⊢;refine cF Tryz.func72 ?_;refine cL k ?_;exact Lf
def aMN(g:List Gr)(t:Nat)(n:Int):List Gr:=g.set t ⟨(g.getD t g0).lim,(g.getD t g0).pro,n⟩
theorem tF(g:List Gr)(t:Nat)(n:Int):(aMN g t n).length=g.length:=zC ..
theorem aG6 {g:List Gr} (h:mV g=true) {t:Nat} (f:t<g.length):(1<=(g.getD t g0).lim/\(g.getD t g0).lim<=64)/\0<=(g.getD t g0).chg/\(g.getD t g0).chg<=64:=by simp only [mV,Bool.and_eq_true] at h;have e:=iM h.1 f;unfold nD at e;simp only [aI6,Bool.or_eq_false_iff,zdn] at e;omega
theorem aSZ(g:List Gr)(t:Nat)(n:Int)(h:t<g.length):(aR g).set t (aS 3 ((aR g).getD t []) 2 [.int .i64 n])=aR (aMN g t n):=by
 have e:(aR g).getD t []=(g.getD t g0).c:=by have :=dV g t h;rwa [zI] at this
 rw [aMN,e,<-aVT];rfl
theorem bGH(g:List Gr)(t:Nat)(n:Int)(e:t<g.length)(f:g.length<=100000):aM Tryz.prog 215 [] [.lst 3 false (aR g),.int .i64 (t:Int),.int .i64 n] (.lst 3 false (aR (aMN g t n))) []:=by
 refine cF Tryz.func215 ?_;refine Wk ?_;refine cE (by rw [aL];omega) (by rw [aL];omega) ?_;refine Wk ?_;rw [aL,show decide (0<=(t:Int)/\(t:Int)< (g.length:Int))=true from zdt ⟨by omega,by omega⟩];refine Wk ?_;rw [show 0+(t:Int).toNat=t by omega,show decide (t< (aR g).length)=true from zdt (by rw [aL];exact e)];refine Wk ?_;refine⟨[],trivial,rfl,trivial,rfl,?_⟩
 repeat' (first |exact trivial |rfl |exact .inl rfl |exact .inr rfl |exact id |exact zbc |apply And.intro)
 ·rw [zC,aL];omega
 ·exact bZ (aSZ g t n e) (by rw [zC,aL])
def eM(g:List Gr)(t:Nat):List Gr×Int:=bif decide ((g.getD t g0).lim- (g.getD t g0).chg<1) then(g,3) else(aMN g t ((g.getD t g0).chg+1),0)
def gH(g:List Gr)(t:Nat):List Gr×Int:=bif decide ((g.getD t g0).chg<1) then(g,4) else(aMN g t ((g.getD t g0).chg-1),0)
theorem bN7(g:List Gr)(t:Nat)(z:t<g.length)(hg:mV g=true):aM Tryz.prog 116 [] [.lst 3 false (aR g),.int .i64 (t:Int),.int .i64 1] (.tup [.lst 3 false (aR (eM g t).1),.int .i64 (eM g t).2]) []:=by
 have C:=(lV hg).2;have j:=aYX g false (by omega);rw [hg] at j;obtain⟨h1,h2⟩:=aG6 hg z;have e:=dV g t z;have m:=bGH g t ((g.getD t g0).chg+1) z (by omega);generalize f:eM g t=q;unfold eM at f;generalize g.getD t g0=x at h1 h2 e m f;refine cF Tryz.func116 ?_;refine cL j ?_;rw [aL,show decide ((t:Int)<0)=false from zdf (by omega),show decide ((g.length:Int)<=(t:Int))=false from zdf (by omega)];refine Wk ?_
 refine⟨λ_=>⟨rfl,by omega,by rw [aL];omega⟩,?_⟩;rw [e];refine Wk ?_;refine⟨λ_=>⟨rfl,by omega,by rw [aL];omega⟩,?_⟩;rw [e];refine Wk ?_;rw [aN (n:=x.lim-x.chg) (by omega) (by omega)];refine aC (λB=>?_) (λB=>?_)<;> try simp only [zD,zA,zF,zE,zG] at B
 ·rw [B,zct] at f;subst f;refine Wk ?_
  try subst f
  exact Lf
 rw [B,zcf] at f;subst f;refine Wk ?_;refine aI (⟨rfl,by omega,by rw [aL];omega⟩) ?_;rw [e];refine Wk ?_;rw [aN (n:=x.chg+1) (by omega) (by omega)];refine cL m ?_
 try subst f
 exact Lf
theorem bOB(g:List Gr)(t:Nat)(z:t<g.length)(hg:mV g=true):aM Tryz.prog 250 [] [.lst 3 false (aR g),.int .i64 (t:Int),.int .i64 1] (.tup [.lst 3 false (aR (gH g t).1),.int .i64 (gH g t).2]) []:=by
 have C:=(lV hg).2;have j:=aYX g false (by omega);rw [hg] at j;obtain⟨h1,h2⟩:=aG6 hg z;have e:=dV g t z;have m:=bGH g t ((g.getD t g0).chg-1) z (by omega);generalize f:gH g t=q;unfold gH at f;generalize g.getD t g0=x at h1 h2 e m f;refine cF Tryz.func250 ?_;refine cL j ?_;rw [aL,show decide ((t:Int)<0)=false from zdf (by omega),show decide ((g.length:Int)<=(t:Int))=false from zdf (by omega)];refine Wk ?_
 refine aI (⟨rfl,by omega,by rw [aL];omega⟩) ?_;rw [e];refine Wk ?_;refine aC (λB=>?_) (λB=>?_)<;> try simp only [zD,zA,zF,zE,zG] at B
 ·rw [B,zct] at f;subst f;refine Wk ?_
  try subst f
  exact Lf
 rw [B,zcf] at f;subst f;refine Wk ?_;refine aI (⟨rfl,by omega,by rw [aL];omega⟩) ?_;rw [e];refine Wk ?_;rw [aN (n:=x.chg-1) (by omega) (by omega)];refine cL m ?_
 try subst f
 exact Lf
theorem bO2(g:List Gr)(t:Nat)(j:t<g.length)(hg:mV g=true):aM Tryz.prog 234 [] [.lst 3 false (aR g),.int .i64 (t:Int),.int .i64 1] (.int .i64 0) []:=by have f:=(lV hg).2;have e:=bG6 g false (by omega);rw [hg] at e;refine cF Tryz.func234 ?_;refine cL e ?_;rw [aL,show decide ((t:Int)<0)=false from zdf (by omega),show decide ((g.length:Int)<=(t:Int))=false from zdf (by omega)];refine Wk ?_;exact Lf
theorem bO7(g:List Gr)(t:Nat)(z:t<g.length)(hg:mV g=true):aM Tryz.prog 246 [] [.lst 3 false (aR g),.int .i64 (t:Int),.int .i64 1] (.tup [.lst 3 false (aR (gH g t).1),.int .i64 (gH g t).2]) []:=by
 have E:=(lV hg).2;have C:=bO2 g t z hg;obtain⟨h1,h2⟩:=aG6 hg z;have e:=dV g t z;have j:(aR g).getD t []=(g.getD t g0).c:=by rwa [zI] at e
 have f:=λn=>aSZ g t n z;have B:=aSO (aR g) false (by rw [aL];omega);generalize m:gH g t=q;unfold gH at m;rw [j] at f;generalize g.getD t g0=x at h1 h2 e j f m;refine cF Tryz.func246 ?_;refine Wk ?_;refine .inr ⟨λ_=>⟨[],_,_,_,B,trivial,rfl,rfl,rfl,?_⟩,(by intro h;cases h)⟩
 refine cL C ?_;refine aI (⟨rfl,by omega,by rw [aL];omega⟩) ?_;rw [e];refine Wk ?_;refine aC (λD=>?_) (λD=>?_)<;> try simp only [zD,zA,zF,zE,zG] at D
 ·rw [D,zct] at m;subst m;refine Wk ?_;refine⟨[],trivial,rfl,trivial,rfl,?_⟩
  try subst m
  repeat' (first |exact trivial |rfl |exact .inl rfl |exact .inr rfl |exact id |exact zbc |apply And.intro)
  ·omega
  ·exact bZ rfl rfl
 rw [D,zcf] at m;subst m;refine Wk ?_;rw [aL,show decide (0<=(t:Int)/\(t:Int)< (g.length:Int))=true from zdt ⟨by omega,by omega⟩];refine Wk ?_;rw [show 0+(t:Int).toNat=t by omega,show decide (t< (aR g).length)=true from zdt (by rw [aL];exact z),j];refine Wk ?_;rw [aN (n:=x.chg-1) (by omega) (by omega)];refine Wk ?_;rw [show decide (0<=(t:Int)/\(t:Int)< (g.length:Int))=true from zdt ⟨by omega,by omega⟩];refine Wk ?_
 rw [show 0+(t:Int).toNat=t by omega,show decide (t< (aR g).length)=true from zdt (by rw [aL];exact z),j];refine Wk ?_;refine⟨[],trivial,rfl,trivial,rfl,?_⟩
 try subst m
 repeat' (first |exact trivial |rfl |exact .inl rfl |exact .inr rfl |exact id |exact zbc |apply And.intro)
 ·rw [zC,aL];omega
 ·exact bZ (f _) (by rw [zC,aL])
structure Pg where
 b:ByteArray
 v:Nat
 d:Nat
def Pg.c(p:Pg):List V:= [.str p.b,.int .i64 (p.v:Int),.int .i64 (p.d:Int)]
structure fJ(p:Pg):Prop where
 size:p.b.size=16
 v:p.v<4
 d:p.d<4
 sub:mK false p.d p.v=0
def z16:ByteArray:=⟨#[0,0,0,0,0,0,0,0,0,0,0,0,0,0,0,0]⟩
theorem aC1 {x y:Nat} (f:x<8)(j:y<8):fX .and .i64 (x:Int) (y:Int)=((x &&& y:Nat):Int):=by
 have e:∀a:Fin 8,∀b:Fin 8,fX .and .i64 (a.val:Int) (b.val:Int)=((a.val &&& b.val:Nat):Int):=by decide
 exact e ⟨x,f⟩ ⟨y,j⟩
theorem bNA:aM Tryz.prog 120 [] [] (.agg (Pg.mk z16 0 0).c) []:=run_eq E1 40 (by kernel_rfl)
theorem bNB:aM Tryz.prog 122 [] [] (.agg (Pg.mk z16 3 0).c) []:=run_eq E1 40 (by kernel_rfl)
theorem aSR(p:Pg)(h:fJ p):aM Tryz.prog 260 [] [.agg p.c] (.bool true) []:=by
 obtain⟨b,v,d⟩:=p;obtain⟨h1,h2,f,h4⟩:=h;dsimp only at h1 h2 f h4;have e:=iU (x:=d) (y:=v) (by omega) (by omega);rw [h4] at e;show aM Tryz.prog 260 [] [.agg [.str b,.int .i64 (v:Int),.int .i64 (d:Int)]] (.bool true) [];refine cF Tryz.func260 ?_;refine Wk ?_
 rw [e,show((b.size:Int)==16)=true from zbe.2 (by omega),show decide ((0:Int)<=(v:Int))=true from zdt (by omega),show decide ((v:Int)<=3)=true from zdt (by omega),show decide ((0:Int)<=(d:Int))=true from zdt (by omega),show decide ((d:Int)<=3)=true from zdt (by omega)];exact Lf
def aE4(p:Pg)(s:Nat):Pg:=⟨p.b,p.v,p.d ||| (s &&& p.v)⟩
def aPP(p:Pg)(s:Nat):Pg:=⟨p.b,p.v,mK false p.d s⟩
theorem aZ3(p:Pg)(h:fJ p)(s:Nat)(j:s<4):aM Tryz.prog 176 [] [.agg p.c,.int .i64 (s:Int)] (.tup [.agg (aE4 p s).c,.int .i64 0]) []:=by
 have e:=aSR p h;obtain⟨b,v,d⟩:=p;obtain⟨h1,h2,f,h4⟩:=h;dsimp only at h1 h2 f h4;show aM Tryz.prog 176 [] [.agg [.str b,.int .i64 (v:Int),.int .i64 (d:Int)],.int .i64 (s:Int)] (.tup [.agg [.str b,.int .i64 (v:Int),.int .i64 ((d ||| (s &&& v):Nat):Int)],.int .i64 0]) []
 refine cF Tryz.func176 ?_;refine cL e ?_;rw [show decide ((s:Int)<0)=false from zdf (by omega),show decide ((3:Int)< (s:Int))=false from zdf (by omega)];refine Wk ?_;rw [aC1 (x:=s) (y:=v) (by omega) (by omega),fP (x:=d) (y:=s &&& v) (by omega) (by have :=Nat.and_le_right (n:=s) (m:=v);omega)];exact Lf
theorem bOI(p:Pg)(h:fJ p)(s:Nat)(j:s<4):aM Tryz.prog 278 [] [.agg p.c,.int .i64 (s:Int)] (.tup [.agg (aPP p s).c,.int .i64 0]) []:=by
 have e:=aSR p h;obtain⟨b,v,d⟩:=p;obtain⟨h1,h2,f,h4⟩:=h;dsimp only at h1 h2 f h4;show aM Tryz.prog 278 [] [.agg [.str b,.int .i64 (v:Int),.int .i64 (d:Int)],.int .i64 (s:Int)] (.tup [.agg [.str b,.int .i64 (v:Int),.int .i64 ((mK false d s:Nat):Int)],.int .i64 0]) [];refine cF Tryz.func278 ?_;refine cL e ?_;rw [show decide ((s:Int)<0)=false from zdf (by omega),show decide ((3:Int)< (s:Int))=false from zdf (by omega)];refine Wk ?_
 rw [iU (x:=d) (y:=s) (by omega) (by omega)];exact Lf
theorem aBQ {p:Pg} (h:fJ p) {s:Nat} (j:s<4):fJ (aE4 p s):=by
 have e:∀v d s:Fin 4,mK false d.val v.val=0->(d.val ||| (s.val &&& v.val))<4/\mK false (d.val ||| (s.val &&& v.val)) v.val=0:=by decide
 obtain⟨h5,f⟩:=e ⟨p.v,h.v⟩ ⟨p.d,h.d⟩ ⟨s,j⟩ h.sub;exact⟨h.size,h.v,h5,f⟩
theorem aIM {p:Pg} (h:fJ p) {s:Nat} (j:s<4):fJ (aPP p s):=by
 have e:∀v d s:Fin 4,mK false d.val v.val=0->mK false d.val s.val<4/\mK false (mK false d.val s.val) v.val=0:=by decide
 obtain⟨h5,f⟩:=e ⟨p.v,h.v⟩ ⟨p.d,h.d⟩ ⟨s,j⟩ h.sub;exact⟨h.size,h.v,h5,f⟩
def aEH(off n a:Nat):Nat->Nat
 |0=>0
 |j+1=>aEH off n a j+bif decide (off<=a+j)&&decide (a+j<off+n) then 1 else 0
def aLX(off n:Nat):Nat->Nat
 |0=>0
 |k+1=>bif decide (0<aEH off n (k*8) 8) then aLX off n k ||| 2^k else aLX off n k
def aKH(off n:Nat):Nat->Nat
 |0=>0
 |k+1=>bif aEH off n (k*8) 8==8 then aKH off n k ||| 2^k else aKH off n k
def tch(off n:Nat):Nat:=aLX off n 2
def cov(off n:Nat):Nat:=aKH off n 2
theorem aRN(off n a:Nat):∀j,aEH off n a j<=j
 |0=>zJ 0
 |j+1=>by have :=aRN off n a j;rw [aEH];cases(decide (off<=a+j)&&decide (a+j<off+n))<;> simp <;> omega
theorem aFB(off n:Nat) {k:Nat} (j:k<=2):aLX off n k<4/\aKH off n k<4:=by
 have f:∀x y:Bool,(bif y then(bif x then 0 ||| 2^0 else 0)||| 2^1 else(bif x then 0 ||| 2^0 else 0))<4:=by decide
 have e:∀x:Bool,(bif x then 0 ||| 2^0 else 0)<4:=by decide
 match k,j with
 |0,_=>exact⟨by show 0<4;decide,by show 0<4;decide⟩
 |1,_=>exact⟨e _,e _⟩
 |2,_=>exact⟨f _ _,f _ _⟩
theorem bAL {k:Nat} (e:k<2):IntKind.i64.wrap (1*2^min (k:Int).toNat IntKind.i64.bits)=((2^k:Nat):Int):=by
 match k,e with
 |0,_=>decide
 |1,_=>decide
theorem bGQ(off n:Nat)(h:off+n<=16):aM Tryz.prog 264 [] [.int .i64 (off:Int),.int .i64 (n:Int)] (.tup [.int .i64 (tch off n:Int),.int .i64 (cov off n:Int)]) []:=by
 unfold tch cov;refine cF Tryz.func264 ?_;refine Wk ?_;refine⟨Nat,λk=>k<=2,λk=>⟨[(0,⟨[],true,.int .i64 (off:Int)⟩),(1,⟨[],true,.int .i64 (n:Int)⟩),(6,⟨[],true,.int .i64 (aLX off n k:Int)⟩),(7,⟨[],true,.int .i64 (aKH off n k:Int)⟩),(8,⟨[],true,.int .i64 (k:Int)⟩)],[],0⟩,λk=>2-k,⟨0,Nat.zero_le _,?_⟩,λk E=>?_⟩
 ·exact Vw []
 dsimp only at E⊢;refine Wk ?_;refine aC (λm=>?_) (λm=>?_)<;> try simp only [zD,zA,zF,zE,zG] at m
 ·have m:k<2:=by simp at m;omega
  obtain⟨H,hc⟩:=aFB off n E;refine Wk ?_;rw [aN (n:=(k:Int)*8) (by omega) (by omega),show(k:Int)*8=((k*8+0:Nat):Int) by omega];refine Wk ?_;refine⟨Nat,λj=>j<=8,λj=>⟨[(0,⟨[],true,.int .i64 (off:Int)⟩),(1,⟨[],true,.int .i64 (n:Int)⟩),(6,⟨[],true,.int .i64 (aLX off n k:Int)⟩),(7,⟨[],true,.int .i64 (aKH off n k:Int)⟩),(8,⟨[],true,.int .i64 (k:Int)⟩),(9,⟨[],true,.int .i64 (aEH off n (k*8) j:Int)⟩),(10,⟨[],true,.int .i64 ((k*8+j:Nat):Int)⟩)],[],0⟩,λj=>8-j,⟨0,Nat.zero_le _,?_⟩,λj G=>?_⟩
  ·exact Vw []
  dsimp only at G⊢;have C:=aRN off n (k*8) j;refine Wk ?_;rw [aN (n:=(k:Int)+1) (by omega) (by omega),aN (n:=((k:Int)+1)*8) (by omega) (by omega)];refine aC (λB=>?_) (λB=>?_)<;> try simp only [zD,zA,zF,zE,zG] at B
  ·have B:j<8:=by simp at B;omega
   have f:aEH off n (k*8) (j+1)=aEH off n (k*8) j+bif decide (off<=k*8+j)&&decide (k*8+j<off+n) then 1 else 0:=rfl
   refine Wk ?_;rw [aN (n:=(off:Int)+(n:Int)) (by omega) (by omega),show(bif decide ((off:Int)<=((k*8+j:Nat):Int)) then decide (((k*8+j:Nat):Int)< (off:Int)+(n:Int)) else false)=(decide (off<=k*8+j)&&decide (k*8+j<off+n)) by rw [show decide ((off:Int)<=((k*8+j:Nat):Int))=decide (off<=k*8+j) from decide_eq_decide.2 (by omega),show decide (((k*8+j:Nat):Int)< (off:Int)+(n:Int))=decide (k*8+j<off+n) from decide_eq_decide.2 (by omega)];cases decide (off<=k*8+j)<;> rfl]
   cases F:(decide (off<=k*8+j)&&decide (k*8+j<off+n)) with
   |true=> rw [F,zct] at f;refine Wk ?_;rw [aN (n:=((aEH off n (k*8) j:Nat):Int)+1) (by omega) (by omega),aN (n:=((k*8+j:Nat):Int)+1) (by omega) (by omega)];refine⟨j+1,by show j+1<=8;omega,?_,by show 8- (j+1)<8-j;omega⟩;dsimp only;rw [f];exact Vw []
   |false=> rw [F,zcf,Nat.add_zero] at f;refine Wk ?_;rw [aN (n:=((k*8+j:Nat):Int)+1) (by omega) (by omega)];refine⟨j+1,by show j+1<=8;omega,?_,by show 8- (j+1)<8-j;omega⟩;dsimp only;rw [f];exact Vw []
  have B:j=8:=by simp at B;omega
  subst B;have e1:aLX off n (k+1)=bif decide (0<aEH off n (k*8) 8) then aLX off n k ||| 2^k else aLX off n k:=rfl
  have e:aKH off n (k+1)=bif aEH off n (k*8) 8==8 then aKH off n k ||| 2^k else aKH off n k:=rfl
  have z:2^k<8:=by rcases(show k=0\/k=1 by omega) with rfl |rfl <;> decide
  generalize aEH off n (k*8) 8=c at C e1 e;refine Wk ?_;rw [show decide ((0:Int)< (c:Int))=decide (0<c) from decide_eq_decide.2 (by omega)]
  cases D:decide (0<c) with
  |true=>
   rw [D,zct] at e1;refine Wk ?_;rw [bAL m,fP (by omega) z]
   rw [show((c:Int)==8)=(c==8) by cases h4:(c==8) with
    |true=>exact zbe.2 (by have :=zbe.1 h4;omega)
    |false=>exact zbn.2 (by have :=zbn.1 h4;omega)]
   cases h4:(c==8) with
   |true=> rw [h4,zct] at e;refine Wk ?_;rw [bAL m,fP (by omega) z,dY (by omega)];refine⟨k+1,by show k+1<=2;omega,?_,by show 2- (k+1)<2-k;omega⟩;dsimp only;rw [e1,e];exact Vw []
   |false=> rw [h4,zcf] at e;refine Wk ?_;rw [dY (by omega)];refine⟨k+1,by show k+1<=2;omega,?_,by show 2- (k+1)<2-k;omega⟩;dsimp only;rw [e1,e];exact Vw []
  |false=>
   rw [D,zcf] at e1;refine Wk ?_
   rw [show((c:Int)==8)=(c==8) by cases h4:(c==8) with
    |true=>exact zbe.2 (by have :=zbe.1 h4;omega)
    |false=>exact zbn.2 (by have :=zbn.1 h4;omega)]
   cases h4:(c==8) with
   |true=> rw [h4,zct] at e;refine Wk ?_;rw [bAL m,fP (by omega) z,dY (by omega)];refine⟨k+1,by show k+1<=2;omega,?_,by show 2- (k+1)<2-k;omega⟩;dsimp only;rw [e1,e];exact Vw []
   |false=> rw [h4,zcf] at e;refine Wk ?_;rw [dY (by omega)];refine⟨k+1,by show k+1<=2;omega,?_,by show 2- (k+1)<2-k;omega⟩;dsimp only;rw [e1,e];exact Vw []
 have m:k=2:=by simp at m;omega
 subst m;refine Wk ?_;exact Lf
def aDQ(p:Pg)(off n:Nat)(w:Bool):Nat:=mK false (bif w then mK false (tch off n) (cov off n) else tch off n) p.v
theorem bOD(off n:Nat)(h:off+n<=16):aM Tryz.prog 263 [] [.int .i64 (off:Int),.int .i64 (n:Int)] (.bool true) []:=by refine cF Tryz.func263 ?_;refine Wk ?_;rw [aN (n:=16- (off:Int)) (by omega) (by omega),show decide ((0:Int)<=(off:Int))=true from zdt (by omega),show decide ((0:Int)<=(n:Int))=true from zdt (by omega),show decide ((off:Int)<=16)=true from zdt (by omega),show decide ((n:Int)<=16- (off:Int))=true from zdt (by omega)];exact Lf
theorem aZ2(p:Pg)(h:fJ p)(off n:Nat)(B:off+n<=16)(w:Bool):aM Tryz.prog 164 [] [.agg p.c,.int .i64 (off:Int),.int .i64 (n:Int),.bool w] (.tup [.int .i64 (aDQ p off n w:Int),.int .i64 0]) []:=by
 have f:=aSR p h;have j:=bOD off n B;have m:=bGQ off n B;obtain⟨h5,z⟩:=aFB off n (zJ 2);have h5:tch off n<4:=h5;have z:cov off n<4:=z;obtain⟨b,v,d⟩:=p;obtain⟨h1,h2,C,h4⟩:=h;dsimp only at h1 h2 C h4;generalize e:aDQ ⟨b,v,d⟩ off n w=q;unfold aDQ at e;dsimp only at e;generalize tch off n=x at *;generalize cov off n=y at *;have D:mK false x y<8:=aX0 (by omega) (by omega)
 show aM Tryz.prog 164 [] [.agg [.str b,.int .i64 (v:Int),.int .i64 (d:Int)],.int .i64 (off:Int),.int .i64 (n:Int),.bool w] _ [];refine cF Tryz.func164 ?_;refine Wk3 f j m ?_
 cases w with
 |true=>
  refine Wk ?_;rw [iU (x:=x) (y:=y) (by omega) (by omega)];rw [iU D (by omega)];subst e
  try subst e
  exact Lf
 |false=>
  refine Wk ?_;rw [iU (x:=x) (y:=v) (by omega) (by omega)];subst e
  try subst e
  exact Lf
def aI3(b:ByteArray)(off:Nat)(s:ByteArray):ByteArray:=b.extract 0 off++s++b.extract (off+s.size) b.size
def uM(p:Pg)(off:Nat)(s:ByteArray):Pg:=⟨aI3 p.b off s,p.v ||| tch off s.size,p.d ||| tch off s.size⟩
theorem qA(b:ByteArray)(i j:Nat):(b.extract i j).size=min j b.size-i:=by simp [ByteArray.size_extract]
theorem aFQ(a b:ByteArray):(a++b).size=a.size+b.size:=ByteArray.size_append
theorem bGL(p:Pg)(h:fJ p)(off:Nat)(s:ByteArray)(j:off+s.size<=16)(z:aDQ p off s.size true=0):aM Tryz.prog 220 [] [.agg p.c,.int .i64 (off:Int),.str s] (.tup [.agg (uM p off s).c,.int .i64 0]) []:=by
 have e:=aZ2 p h off s.size j true;have f:=bGQ off s.size j;rw [z] at e;obtain⟨h5,B⟩:=aFB off s.size (zJ 2);have h5:tch off s.size<4:=h5;obtain⟨b,v,d⟩:=p;obtain⟨h1,h2,m,h4⟩:=h;dsimp only at h1 h2 m h4;show aM Tryz.prog 220 [] [.agg [.str b,.int .i64 (v:Int),.int .i64 (d:Int)],.int .i64 (off:Int),.str s] (.tup [.agg [.str (aI3 b off s),.int .i64 ((v ||| tch off s.size:Nat):Int),.int .i64 ((d ||| tch off s.size:Nat):Int)],.int .i64 0]) []
 generalize tch off s.size=x at *;refine cF Tryz.func220 ?_;refine Wk2 e f ?_;refine⟨λ_=>⟨by omega,by omega,by omega⟩,?_⟩;refine Wk ?_;refine⟨λ_=>by rw [qA];omega,?_⟩;refine Wk ?_;rw [aN (n:=(off:Int)+(s.size:Int)) (by omega) (by omega),show(off:Int)+(s.size:Int)=((off+s.size:Nat):Int) by omega];refine Wk ?_;refine⟨λ_=>⟨by omega,by omega,by omega⟩,?_⟩;refine Wk ?_;refine⟨λ_=>by rw [aFQ,qA,qA];omega,?_⟩;refine Wk ?_;rw [fP (x:=v) (by omega) (by omega)];refine Wk ?_
 rw [fP (x:=d) (by omega) (by omega)];refine Wk ?_;exact Lf
structure Df where
 dev:Int
 slot:Int
 E:dD
 size:Nat
 blocks:Nat
 ec:Int
 ee:Int
def Df.c(f:Df):List V:= [.int .i64 f.dev,.int .i64 f.slot]++can f.E++ [.int .i64 (f.size:Int),.int .i64 (f.blocks:Int),.int .i64 f.ec,.int .i64 f.ee,.int .i64 0,.int .i64 0,.int .i64 0,.int .i64 0,.int .i64 0]
structure Us where
 file:Nat
 page:Nat
 p:Pg
 ten:Nat
 holds:Nat
 rd:Nat
 wr:Nat
def Us.c(u:Us):List V:= [.int .i64 (u.file:Int),.int .i64 (u.page:Int),.str u.p.b,.int .i64 (u.p.v:Int),.int .i64 (u.p.d:Int),.int .i64 (u.ten:Int),.int .i64 (u.holds:Int),.int .i64 (u.rd:Int),.int .i64 (u.wr:Int)]
def frC(o:Option Us):List V:=match o with
 |none=>fre.c
 |some u=>u.c
structure Dc where
 fl:List Df
 fr:List (Option Us)
 zo:List Zn
 gr:List Gr
 ls:List Ls
 ck:List Int
 pt:List Pt
def bF(L:List Df):List (List V):=L.map Df.c
def aQ(L:List (Option Us)):List (List V):=L.map frC
def Dc.c(c:Dc):List V:= [.lst 15 false (bF c.fl),.lst 9 false (aQ c.fr),.lst 6 false (aJ c.zo),.lst 3 false (aR c.gr),.lst 3 false (bA c.ls),.lst 1 false (aB c.ck),.lst 5 false (aP c.pt)]
theorem cJ(L:List Df):(bF L).length=L.length:=List.length_map _
theorem bU(L:List (Option Us)):(aQ L).length=L.length:=List.length_map _
def Dc.o(c:Dc):List V:= [.sl 0 0 c.fl.length,.sl 1 0 c.fr.length,.lst 6 false (aJ c.zo),.sl 2 0 c.gr.length,.sl 3 0 c.ls.length,.sl 4 0 c.ck.length,.lst 5 false (aP c.pt)]
def Dc.ob(c:Dc):List Sk.Obj:= [.row 15 (bF c.fl),.row 9 (aQ c.fr),.row 3 (aR c.gr),.row 3 (bA c.ls),.row 1 (aB c.ck)]
structure SmD(c:Dc):Prop where
 fl:c.fl.length<=8
 fr:c.fr.length<=64
 gr:c.gr.length<=4
 ls:c.ls.length<=4
 ck:c.ck.length<=4
theorem aO4(c:Dc)(h:SmD c):aM Tryz.prog 85 [] [.agg c.c] (.agg c.o) c.ob:=by
 obtain⟨f,j,B,gr,m,e,z⟩:=c;obtain⟨h1,h2,C,h4,h5⟩:=h;dsimp only at h1 h2 C h4 h5
 show aM Tryz.prog 85 [] [.agg [.lst 15 false (bF f),.lst 9 false (aQ j),.lst 6 false (aJ B),.lst 3 false (aR gr),.lst 3 false (bA m),.lst 1 false (aB e),.lst 5 false (aP z)]]
  (.agg [.sl 0 0 f.length,.sl 1 0 j.length,.lst 6 false (aJ B),.sl 2 0 gr.length,.sl 3 0 m.length,.sl 4 0 e.length,.lst 5 false (aP z)]) [.row 15 (bF f),.row 9 (aQ j),.row 3 (aR gr),.row 3 (bA m),.row 1 (aB e)]
 refine cF Tryz.func85 ?_;refine Wk ?_;refine cE (by rw [cJ];omega) (by rw [cJ];omega) ?_;refine Wk ?_;refine cE (by rw [bU];omega) (by rw [bU];omega) ?_;refine Wk ?_;refine cE (by rw [aL];omega) (by rw [aL];omega) ?_;refine Wk ?_;refine cE (by rw [bT];omega) (by rw [bT];omega) ?_;refine Wk ?_;refine cE (by rw [aA];omega) (by rw [aA];omega) ?_;refine Wk ?_;rw [cJ,bU,aL,bT,aA];exact⟨[some 2,some 3,some 4,some 5,some 6],Cl,rfl,Cl,rfl,Cl⟩
theorem bQ6 {k:Nat} (f:k<8):IntKind.i64.wrap (1*2^min (k:Int).toNat IntKind.i64.bits)=((2^k:Nat):Int):=by
 have e:∀k:Fin 8,IntKind.i64.wrap (1*2^min (k.val:Int).toNat IntKind.i64.bits)=((2^k.val:Nat):Int):=by decide
 exact e ⟨k,f⟩
theorem aWR {x k:Nat} (j:x<256)(f:k<8):fX .and .i64 (x:Int) ((2^k:Nat):Int)=((x &&& 2^k:Nat):Int):=by
 have e:∀x:Fin 256,∀k:Fin 8,fX .and .i64 (x.val:Int) ((2^k.val:Nat):Int)=((x.val &&& 2^k.val:Nat):Int):=by decide +kernel
 exact e ⟨x,j⟩ ⟨k,f⟩
def sM(blocks page:Nat):Bool:=((blocks &&& 2^page:Nat):Int)==0
theorem bG3(f:Df)(G:bG f.E)(j:Nat)(B:j<8)(z:f.blocks<256):aM Tryz.prog 121 [] [.agg f.c,.int .i64 (j:Int)] (.bool (sM f.blocks j)) []:=by obtain⟨k0,k1,k2,k3,e⟩:=cC G;obtain⟨F,D,E,C,m,H,J⟩:=f;dsimp only at z e;unfold Df.c;dsimp only;rw [e];refine cF Tryz.func121 ?_;refine Wk ?_;refine⟨λ_=>by omega,?_⟩;refine Wk ?_;rw [bQ6 B,aWR z B];exact Lf
theorem aH2(c:Dc)(f:Nat)(z:f<c.fl.length):aM Tryz.prog 115 [] [.agg c.c,.int .i64 (f:Int)] (.bool true) []:=by obtain⟨e,m,D,gr,B,j,C⟩:=c;dsimp only at z;show aM Tryz.prog 115 [] [.agg [.lst 15 false (bF e),.lst 9 false (aQ m),.lst 6 false (aJ D),.lst 3 false (aR gr),.lst 3 false (bA B),.lst 1 false (aB j),.lst 5 false (aP C)],.int .i64 (f:Int)] (.bool true) [];refine cF Tryz.func115 ?_;refine Wk ?_;rw [cJ,show decide ((0:Int)<=(f:Int))=true from zdt (by omega),show decide ((f:Int)< (e.length:Int))=true from zdt (by omega)];exact Lf
def aX:Df:=⟨0,0,λ_=>(0,0),0,0,0,0⟩
theorem gX(L:List Df)(k:Nat)(h:k<L.length):(bF L).getD k []=(L.getD k aX).c:=by simp [bF,zH,h]
theorem cD(L:List (Option Us))(k:Nat)(h:k<L.length):(aQ L).getD k []=frC (L.getD k none):=by simp [aQ,zH,h]
def mE(E:dD)(u:Us):dD:=tY (tY E u.page (u.p.d != 0) 1) u.page (u.wr != 0) 2
theorem tZ(E:dD)(i m:Nat)(on:Bool)(j:Nat):(tY E i on m j).1=(E j).1:=by
 unfold tY
 by_cases e:j=i
 ·subst e;rw [fR]
 ·rw [eP e]
theorem Sup.mrk {E:dD} (h:Sup E) {i m:Nat} {on:Bool} :Sup (tY E i on m):=λj e=>by rw [tZ];exact h j e
theorem bFW {E:dD} (e:bG E)(f:Sup E) {u:Us} (hv:0< (E u.page).1):bG (mE E u)/\Sup (mE E u):=by have h1:=e.mrk (i:=u.page) (m:=1) (on:=(u.p.d != 0)) (by decide) hv;exact⟨h1.mrk (i:=u.page) (m:=2) (on:=(u.wr != 0)) (by decide) (by rw [tZ];exact hv),f.mrk.mrk⟩
def hY(f:Df)(E:dD):Df:=⟨f.dev,f.slot,E,f.size,f.blocks,f.ec,f.ee⟩
theorem aBI(L:List Df)(k:Nat)(E:dD)(h:k<L.length)(m:bG (L.getD k aX).E)(f:bG E):(bF L).set k (aS 15 ((bF L).getD k []) 2 (can E))=bF (L.set k (hY (L.getD k aX) E)):=by
 rw [gX L k h,bF,bF,List.map_set];obtain⟨k0,k1,k2,k3,e⟩:=cC m;obtain⟨z,q1,q2,B,j⟩:=cC f
 congr 1
 unfold Df.c hY;dsimp only;rw [e,j];rfl
structure pU(c:Dc)(n:Nat)(u:Us):Prop where
 at_:n<c.fr.length
 get:c.fr.getD n none=some u
 file:u.file<c.fl.length
 page:u.page<16
 E:bG (c.fl.getD u.file aX).E
 sup:Sup (c.fl.getD u.file aX).E
 val:0< ((c.fl.getD u.file aX).E u.page).1
 pg:fJ u.p
 ten:u.ten<c.ls.length
 rd:u.rd<4
 wr:u.wr<4
def Dc.mark(c:Dc)(u:Us):Dc:=⟨c.fl.set u.file (hY (c.fl.getD u.file aX) (mE (c.fl.getD u.file aX).E u)),c.fr,c.zo,c.gr,c.ls,c.ck,c.pt⟩
theorem okb {E:dD} (e:bG E)(f:Sup E)(i:Nat)(hi:i<16)(m:Nat)(hm:m=1\/m=2\/m=4)(hv:0< (E i).1)(on:Bool):
 aM Tryz.prog (bif on then 319 else 320) [] [.agg (can E),.int .i64 (i:Int),.int .i64 (m:Int)] (.tup [.agg (can (tY E i on m)),.int .i64 0]) []:=by
 cases on
 ·exact bP1 e f i hi m hm hv
 ·exact bP0 e f i hi m hm hv
theorem bGP(c:Dc)(n:Nat)(u:Us)(hc:SmD c)(h:pU c n u):aM Tryz.prog 252 c.ob [.agg c.o,.int .i64 ((n+1:Nat):Int)] (.agg (c.mark u).o) (c.mark u).ob:=by
 obtain⟨h1,h2,H,h4,h5,Q,J,h8,h9,T,W⟩:=h;obtain⟨C,G,zo,gr,O,M,pt⟩:=c;obtain⟨s1,s2,s3,s4,s5⟩:=hc;dsimp only at h1 h2 H h5 Q J h9 s1 s2 s3 s4 s5;have D:=cD G n h1;rw [h2] at D;have D:(aQ G).getD n []=u.c:=D;have F:=gX C u.file H;obtain⟨m1,m2⟩:=bFW h5 Q J;have z:=aBI C u.file _ H h5 m1;rw [F] at z;unfold Dc.mark;dsimp only;generalize ad:C.getD u.file aX=f at *
 show aM Tryz.prog 252 [.row 15 (bF C),.row 9 (aQ G),.row 3 (aR gr),.row 3 (bA O),.row 1 (aB M)] [.agg [.sl 0 0 C.length,.sl 1 0 G.length,.lst 6 false (aJ zo),.sl 2 0 gr.length,.sl 3 0 O.length,.sl 4 0 M.length,.lst 5 false (aP pt)],.int .i64 ((n+1:Nat):Int)]
  (.agg [.sl 0 0 (C.set u.file (hY f (mE f.E u))).length,.sl 1 0 G.length,.lst 6 false (aJ zo),.sl 2 0 gr.length,.sl 3 0 O.length,.sl 4 0 M.length,.lst 5 false (aP pt)]) [.row 15 (bF (C.set u.file (hY f (mE f.E u)))),.row 9 (aQ G),.row 3 (aR gr),.row 3 (bA O),.row 1 (aB M)]
 rw [zC];generalize bF (C.set u.file (hY f (mE f.E u)))=R at z⊢;obtain⟨j,B,⟨b,v,d⟩,ac,holds,rd,K⟩:=u;have D:(aQ G).getD n []=[.int .i64 (j:Int),.int .i64 (B:Int),.str b,.int .i64 (v:Int),.int .i64 (d:Int),.int .i64 (ac:Int),.int .i64 (holds:Int),.int .i64 (rd:Int),.int .i64 (K:Int)]:=D;dsimp only [mE] at H h4 J h8 T W z F m1 m2;obtain⟨k0,k1,k2,k3,e⟩:=cC h5
 have aa:f.c=[.int .i64 f.dev,.int .i64 f.slot,.int .i64 (hgt f.E:Int),.lst k0 k1 k2,.int .i64 k3,.int .i64 (oG f.E 0 (4^hgt f.E):Nat),.int .i64 (f.size:Int),.int .i64 (f.blocks:Int),.int .i64 f.ec,.int .i64 f.ee,.int .i64 0,.int .i64 0,.int .i64 0,.int .i64 0,.int .i64 0]:=by unfold Df.c;rw [e];rfl
 rw [aa] at F z;have Y:=h8.d;dsimp only at Y;refine eY (ob0:= [.row 15 (bF C),.row 9 (aQ G),.row 3 (aR gr),.row 3 (bA O),.row 1 (aB M)]) [] Tryz.func252 rfl rfl rfl rfl ?_;refine Wk ?_;rw [aN (n:=((n+1:Nat):Int)-1) (by omega) (by omega),show((n+1:Nat):Int)-1=(n:Int) by omega,show decide (0<=(n:Int)/\(n:Int)< (G.length:Int))=true from zdt ⟨by omega,by omega⟩];refine Wk ?_
 rw [show 0+(n:Int).toNat=n by omega,show decide (n< (aQ G).length)=true from zdt (by rw [bU];exact h1),D];refine Wk ?_;rw [show decide (0<=(j:Int)/\(j:Int)< (C.length:Int))=true from zdt ⟨by omega,by omega⟩];refine Wk ?_;rw [show 0+(j:Int).toNat=j by omega,show decide (j< (bF C).length)=true from zdt (by rw [cJ];exact H),F];refine Wk ?_
 have Z:(((d:Nat):Int) != 0)=(d != 0):=by
  cases N:(d != 0) with
  |true=>rw [bne_iff_ne] at N⊢;omega
  |false=>rw [bne_eq_false_iff_eq] at N⊢;omega
 have ab:(((K:Nat):Int) != 0)=(K != 0):=by
  cases N:(K != 0) with
  |true=>rw [bne_iff_ne] at N⊢;omega
  |false=>rw [bne_eq_false_iff_eq] at N⊢;omega
 have n1:=h5.mrk (i:=B) (m:=1) (on:=d != 0) (by decide) J;have n2:=Q.mrk (i:=B) (m:=1) (on:=d != 0);have j1:=okb h5 Q B h4 1 (.inl rfl) J (d != 0);have j2:=okb n1 n2 B h4 2 (.inr (.inl rfl)) (by rw [tZ];exact J) (K != 0);obtain⟨p0,p1,p2,p3,e1⟩:=cC n1;obtain⟨r0,r1,r2,r3,e2⟩:=cC m1;rw [e,e1] at j1;rw [e1,e2] at j2;rw [e2] at z;rw [Z];generalize(d != 0)=bd at *;generalize(K != 0)=bw at *;cases bd <;> cases bw
 all_goals
  dsimp only [zct,zcf] at j1 j2;refine cL j1 ?_;rw [ab];refine cL j2 ?_;rw [show decide (0<=(j:Int)/\(j:Int)< (C.length:Int))=true from zdt ⟨by omega,by omega⟩];refine Wk ?_;rw [show 0+(j:Int).toNat=j by omega,show decide (j< (bF C).length)=true from zdt (by rw [cJ];exact H),F];refine Wk ?_;refine⟨[some 0,some 1,some 2,some 3,some 4],?_,rfl,?_,rfl,?_⟩
  all_goals repeat' (first |exact trivial |rfl |exact .inl rfl |exact .inr rfl |exact id |exact zbc |apply And.intro)
  exact z
def Dc.setU(c:Dc)(n:Nat)(u:Us):Dc:=⟨c.fl,c.fr.set n (some u),c.zo,c.gr,c.ls,c.ck,c.pt⟩
def Dc.put(c:Dc)(n:Nat)(u:Us):Dc:=(c.setU n u).mark u
theorem aZ1(c:Dc)(n:Nat)(u:Us)(hc:SmD c)(h:pU (c.setU n u) n u):aM Tryz.prog 155 [] [.agg c.c,.int .i64 ((n+1:Nat):Int),.agg u.c] (.agg (c.put n u).c) []:=by
 have z:n<c.fr.length:=by have :=h.at_;simpa [Dc.setU] using this
 have B:SmD (c.setU n u):=⟨hc.fl,by show(c.fr.set n (some u)).length<=64;rw [zC];exact hc.fr,hc.gr,hc.ls,hc.ck⟩;have e:=bGP (c.setU n u) n u B h;have C:=aO4 c hc;unfold Dc.put;obtain⟨F,f,Q,gr,K,D,N⟩:=c;have m:=hc.fr;dsimp only at z m
 have j:(aQ f).set n (aS 9 ((aQ f).getD n []) 0 u.c)=aQ (f.set n (some u)):=by
  rw [cD f n z];have :aS 9 (frC (f.getD n none)) 0 u.c=u.c:=by cases f.getD n none <;> rfl
  rw [this];unfold aQ;rw [List.map_set];rfl
 generalize T:(Dc.setU ⟨F,f,Q,gr,K,D,N⟩ n u).mark u=q at e⊢;obtain⟨G,H,R,J,M,E,O⟩:=q;unfold Dc.o Dc.ob Dc.setU at e;dsimp only at e;rw [zC,<-j] at e;refine cF Tryz.func155 ?_;refine Wk ?_;refine .inr ⟨λ_=>⟨[],_,_,_,C,trivial,rfl,rfl,rfl,?_⟩,(by intro h;cases h)⟩
 refine Wk ?_;rw [aN (n:=((n+1:Nat):Int)-1) (by omega) (by omega),show((n+1:Nat):Int)-1=(n:Int) by omega,show decide (0<=(n:Int)/\(n:Int)< (f.length:Int))=true from zdt ⟨by omega,by omega⟩];refine Wk ?_;rw [show 0+(n:Int).toNat=n by omega,show decide (n< (aQ f).length)=true from zdt (by rw [bU];exact z)];refine Wk ?_;refine .inr ⟨λ_=>⟨[3,4,5,6,7],_,_,_,e,⟨rfl,rfl,rfl,rfl,rfl,trivial⟩,rfl,rfl,rfl,?_⟩,(by intro h;cases h)⟩
 refine Wk ?_;refine⟨[],trivial,rfl,trivial,rfl,?_⟩
 repeat' (first |exact trivial |rfl |exact .inl rfl |exact .inr rfl |exact id |exact zbc |apply And.intro)
 all_goals first
  |exact bZ rfl (cJ _)
  |exact bZ rfl (bU _)
  |exact bZ rfl (aL _)
  |exact bZ rfl (bT _)
  |exact bZ rfl (aA _)
  | (rw [cJ];omega)
  | (rw [bU];omega)
  | (rw [aL];omega)
  | (rw [bT];omega)
  | (rw [aA];omega)
  |trace_state
end Go.Proofs.YtmhapcbjjpadnaaGreat
