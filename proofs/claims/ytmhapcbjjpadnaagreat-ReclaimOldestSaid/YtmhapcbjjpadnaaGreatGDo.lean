/- Caches. -/
import Derived.Test.YtmhapcbjjpadnaaGreatG8o
import Derived.Test.YtmhapcbjjpadnaaGreatG7o
import Derived.Test.YtmhapcbjjpadnaaGreatG9o
import Derived.Test.YtmhapcbjjpadnaaGreatGBo
set_option linter.all false
set_option maxHeartbeats 1000000
set_option maxRecDepth 40000
open Bool renaming cond_false_right→zA,cond_true_left→zD,not_eq_false'→zE,not_eq_true'→zF,not_not→zG
open Int renaming toNat_natCast→zI
open List renaming length_set→zC,getD_eq_getElem?_getD→zH
open Nat renaming le_refl→zJ
namespace Go.Proofs.YtmhapcbjjpadnaaGreat
open Go Go.Sk Go.RowKit
def lD(s:Int):Int×Bool:=bif decide (0<=s)||decide (s< -1000001) then(0,false) else(-s-1,true)
def aF0(c s:Int):Int×Int:=bif (bif !(lD s).2 then true else decide (c<=(lD s).1)) then(0,1) else(c- (lD s).1,0)
def aZS(c s n:Int):Bool:=bif (aF0 c s).2==0 then decide ((aF0 c s).1<=n) else false
theorem aUL {s:Int} (h:(lD s).2=true):0<=(lD s).1/\(lD s).1<=1000000:=by
 revert h;unfold lD
 cases h:(decide (0<=s)||decide (s< -1000001)) with
 |true=>intro h;cases h
 |false=>
  intro _;simp only [zcf]
  by_cases e:0<=s
  ·rw [zdt e] at h;cases h
  ·rw [zdf e,Bool.false_or,zdn] at h;omega
theorem bME(c:Int)(e:0<=c)(f:c<=1000000):aN Tryz.prog 243 [] [.int .i64 c] (.bool true) []:=by refine cG Tryz.func243 ?_;refine Wk ?_;rw [show decide ((0:Int)<=c)=true from zdt e,show decide (c<=1000000)=true from zdt f];exact Lf
theorem bLQ(c:Int)(e:0<=c)(f:c<=1000000):aN Tryz.prog 152 [] [.int .i64 c] (.tup [.int .i64 (0- (c+1)),.int .i64 0]) []:=by refine cG Tryz.func152 ?_;refine cS (bME c e f) ?_;rw [aO (n:=c+1) (by omega) (by omega),aO (n:=0- (c+1)) (by omega) (by omega)];exact Lf
theorem bMS(s:Int):aN Tryz.prog 280 [] [.int .i64 s] (.tup [.int .i64 (lD s).1,.bool (lD s).2]) []:=by
 generalize e:lD s=q;unfold lD at e;refine cG Tryz.func280 ?_;refine Wk ?_;refine aC (λf=>?_) (λf=>?_)<;> try simp only [zD,zA,zF,zE,zG] at f
 ·rw [f,zct] at e;subst e;refine Wk ?_
  try subst e
  exact Lf
 have j:0-s-1= -s-1/\-(1000001:Int)<=s/\s<=0:=by
  by_cases m:0<=s
  ·rw [zdt m] at f;cases f
  ·rw [zdf m,Bool.false_or,zdn] at f;omega
 obtain⟨j,z,B⟩:=j;rw [f,zcf] at e;subst e;refine Wk ?_;rw [aO (n:=0-s) (by omega) (by omega),aO (n:=0-s-1) (by omega) (by omega),j]
 try subst e
 exact Lf
theorem bLY(c s:Int)(z:0<=c)(B:c<=1000000):aN Tryz.prog 179 [] [.int .i64 c,.int .i64 s] (.tup [.int .i64 (aF0 c s).1,.int .i64 (aF0 c s).2]) []:=by
 generalize f:aF0 c s=q;unfold aF0 at f;have e:=bMS s;have j:=aUL (s:=s);generalize(lD s).1=t at e j f;generalize(lD s).2=o at e j f;generalize m:(bif !o then true else decide (c<=t))=w at f;refine cG Tryz.func179 ?_;refine Wk ?_;rw [show decide (c<0)=false from zdf (by omega),show decide ((1000000:Int)<c)=false from zdf (by omega)];refine cS e ?_;rw [show(bif !o then true else decide (c<=t))=w from m]
 cases w with
 |true=>
  rw [zct] at f;subst f;refine Wk ?_
  try subst f
  exact Lf
 |false=>
  rw [zcf] at f;subst f;have C:=j (by cases o;cases m;rfl)
  refine Wk ?_;rw [aO (n:=c-t) (by omega) (by omega)]
  try subst f
  exact Lf
theorem bPQ(c s n:Int)(e:0<=c)(f:c<=1000000):aN Tryz.prog 72 [] [.int .i64 c,.int .i64 s,.int .i64 n] (.bool (aZS c s n)) []:=by have k:=bLY c s e f;unfold aZS;generalize aF0 c s=q at k⊢;refine cG Tryz.func72 ?_;refine cS k ?_;exact Lf
def aLC(g:List Gr)(t:Nat)(n:Int):List Gr:=g.set t ⟨(g.getD t g0).lim,(g.getD t g0).pro,n⟩
theorem sG(g:List Gr)(t:Nat)(n:Int):(aLC g t n).length=g.length:=zC ..
theorem aF6 {g:List Gr} (h:nR g=true) {t:Nat} (f:t<g.length):(1<=(g.getD t g0).lim/\(g.getD t g0).lim<=64)/\0<=(g.getD t g0).chg/\(g.getD t g0).chg<=64:=by simp only [nR,Bool.and_eq_true] at h;have e:=iH h.1 f;unfold mM at e;simp only [aOA,Bool.or_eq_false_iff,zdn] at e;omega
theorem aRK(g:List Gr)(t:Nat)(n:Int)(h:t<g.length):(aR g).set t (aS 3 ((aR g).getD t []) 2 [.int .i64 n])=aR (aLC g t n):=by
 have e:(aR g).getD t []=(g.getD t g0).c:=by have :=dV g t h;rwa [zI] at this
 rw [aLC,e,<-aUB];rfl
theorem bEI(g:List Gr)(t:Nat)(n:Int)(e:t<g.length)(f:g.length<=100000):aN Tryz.prog 215 [] [.lst 3 false (aR g),.int .i64 (t:Int),.int .i64 n] (.lst 3 false (aR (aLC g t n))) []:=by
 refine cG Tryz.func215 ?_;refine Wk ?_;refine cC (by rw [aK];omega) (by rw [aK];omega) ?_;refine Wk ?_;rw [aK,show decide (0<=(t:Int)/\(t:Int)< (g.length:Int))=true from zdt ⟨by omega,by omega⟩];refine Wk ?_;rw [show 0+(t:Int).toNat=t by omega,show decide (t< (aR g).length)=true from zdt (by rw [aK];exact e)];refine Wk ?_;refine⟨[],trivial,rfl,trivial,rfl,?_⟩
 repeat' (first |exact trivial |rfl |exact .inl rfl |exact .inr rfl |exact id |exact zbc |apply And.intro)
 ·rw [zC,aK];omega
 ·exact cM (aRK g t n e) (by rw [zC,aK])
def fG(g:List Gr)(t:Nat):List Gr×Int:=bif decide ((g.getD t g0).lim- (g.getD t g0).chg<1) then(g,3) else(aLC g t ((g.getD t g0).chg+1),0)
def gC(g:List Gr)(t:Nat):List Gr×Int:=bif decide ((g.getD t g0).chg<1) then(g,4) else(aLC g t ((g.getD t g0).chg-1),0)
theorem bLE(g:List Gr)(t:Nat)(z:t<g.length)(hg:nR g=true):aN Tryz.prog 116 [] [.lst 3 false (aR g),.int .i64 (t:Int),.int .i64 1] (.tup [.lst 3 false (aR (fG g t).1),.int .i64 (fG g t).2]) []:=by
 have D:=(lI hg).2;have j:=aX6 g false (by omega);rw [hg] at j;obtain⟨C,h2⟩:=aF6 hg z;have e:=dV g t z;have m:=bEI g t ((g.getD t g0).chg+1) z (by omega);generalize f:fG g t=q;unfold fG at f;generalize g.getD t g0=x at C h2 e m f;refine cG Tryz.func116 ?_;refine cS j ?_;rw [aK,show decide ((t:Int)<0)=false from zdf (by omega),show decide ((g.length:Int)<=(t:Int))=false from zdf (by omega)];refine Wk ?_
 refine⟨λ_=>⟨rfl,by omega,by rw [aK];omega⟩,?_⟩;rw [e];refine Wk ?_;refine⟨λ_=>⟨rfl,by omega,by rw [aK];omega⟩,?_⟩;rw [e];refine Wk ?_;rw [aO (n:=x.lim-x.chg) (by omega) (by omega)];refine aC (λB=>?_) (λB=>?_)<;> try simp only [zD,zA,zF,zE,zG] at B
 ·rw [B,zct] at f;subst f;refine Wk ?_
  try subst f
  exact Lf
 rw [B,zcf] at f;subst f;refine Wk ?_;refine aG (⟨rfl,by omega,by rw [aK];omega⟩) ?_;rw [e];refine Wk ?_;rw [aO (n:=x.chg+1) (by omega) (by omega)];refine cS m ?_
 try subst f
 exact Lf
theorem bMK(g:List Gr)(t:Nat)(z:t<g.length)(hg:nR g=true):aN Tryz.prog 250 [] [.lst 3 false (aR g),.int .i64 (t:Int),.int .i64 1] (.tup [.lst 3 false (aR (gC g t).1),.int .i64 (gC g t).2]) []:=by
 have D:=(lI hg).2;have j:=aX6 g false (by omega);rw [hg] at j;obtain⟨C,h2⟩:=aF6 hg z;have e:=dV g t z;have m:=bEI g t ((g.getD t g0).chg-1) z (by omega);generalize f:gC g t=q;unfold gC at f;generalize g.getD t g0=x at C h2 e m f;refine cG Tryz.func250 ?_;refine cS j ?_;rw [aK,show decide ((t:Int)<0)=false from zdf (by omega),show decide ((g.length:Int)<=(t:Int))=false from zdf (by omega)];refine Wk ?_
 refine aG (⟨rfl,by omega,by rw [aK];omega⟩) ?_;rw [e];refine Wk ?_;refine aC (λB=>?_) (λB=>?_)<;> try simp only [zD,zA,zF,zE,zG] at B
 ·rw [B,zct] at f;subst f;refine Wk ?_
  try subst f
  exact Lf
 rw [B,zcf] at f;subst f;refine Wk ?_;refine aG (⟨rfl,by omega,by rw [aK];omega⟩) ?_;rw [e];refine Wk ?_;rw [aO (n:=x.chg-1) (by omega) (by omega)];refine cS m ?_
 try subst f
 exact Lf
theorem bMB(g:List Gr)(t:Nat)(j:t<g.length)(hg:nR g=true):aN Tryz.prog 234 [] [.lst 3 false (aR g),.int .i64 (t:Int),.int .i64 1] (.int .i64 0) []:=by have f:=(lI hg).2;have e:=bEA g false (by omega);rw [hg] at e;refine cG Tryz.func234 ?_;refine cS e ?_;rw [aK,show decide ((t:Int)<0)=false from zdf (by omega),show decide ((g.length:Int)<=(t:Int))=false from zdf (by omega)];refine Wk ?_;exact Lf
theorem bMG(g:List Gr)(t:Nat)(z:t<g.length)(hg:nR g=true):aN Tryz.prog 246 [] [.lst 3 false (aR g),.int .i64 (t:Int),.int .i64 1] (.tup [.lst 3 false (aR (gC g t).1),.int .i64 (gC g t).2]) []:=by
 have F:=(lI hg).2;have C:=bMB g t z hg;obtain⟨E,h2⟩:=aF6 hg z;have e:=dV g t z;have j:(aR g).getD t []=(g.getD t g0).c:=by rwa [zI] at e
 have f:=λn=>aRK g t n z;have B:=aRA (aR g) false (by rw [aK];omega);generalize m:gC g t=q;unfold gC at m;rw [j] at f;generalize g.getD t g0=x at E h2 e j f m;refine cG Tryz.func246 ?_;refine Wk ?_;refine .inr ⟨λ_=>⟨[],_,_,_,B,trivial,rfl,rfl,rfl,?_⟩,(by intro h;cases h)⟩
 refine cS C ?_;refine aG (⟨rfl,by omega,by rw [aK];omega⟩) ?_;rw [e];refine Wk ?_;refine aC (λD=>?_) (λD=>?_)<;> try simp only [zD,zA,zF,zE,zG] at D
 ·rw [D,zct] at m;subst m;refine Wk ?_;refine⟨[],trivial,rfl,trivial,rfl,?_⟩
  try subst m
  repeat' (first |exact trivial |rfl |exact .inl rfl |exact .inr rfl |exact id |exact zbc |apply And.intro)
  ·omega
  ·exact cM rfl rfl
 rw [D,zcf] at m;subst m;refine Wk ?_;rw [aK,show decide (0<=(t:Int)/\(t:Int)< (g.length:Int))=true from zdt ⟨by omega,by omega⟩];refine Wk ?_;rw [show 0+(t:Int).toNat=t by omega,show decide (t< (aR g).length)=true from zdt (by rw [aK];exact z),j];refine Wk ?_;rw [aO (n:=x.chg-1) (by omega) (by omega)];refine Wk ?_;rw [show decide (0<=(t:Int)/\(t:Int)< (g.length:Int))=true from zdt ⟨by omega,by omega⟩];refine Wk ?_
 rw [show 0+(t:Int).toNat=t by omega,show decide (t< (aR g).length)=true from zdt (by rw [aK];exact z),j];refine Wk ?_;refine⟨[],trivial,rfl,trivial,rfl,?_⟩
 try subst m
 repeat' (first |exact trivial |rfl |exact .inl rfl |exact .inr rfl |exact id |exact zbc |apply And.intro)
 ·rw [zC,aK];omega
 ·exact cM (f _) (by rw [zC,aK])
structure Pg where
 b:ByteArray
 v:Nat
 d:Nat
def Pg.c(p:Pg):List V:= [.str p.b,.int .i64 (p.v:Int),.int .i64 (p.d:Int)]
structure gJ(p:Pg):Prop where
 size:p.b.size=16
 v:p.v<4
 d:p.d<4
 sub:sF false p.d p.v=0
def z16:ByteArray:=⟨#[0,0,0,0,0,0,0,0,0,0,0,0,0,0,0,0]⟩
theorem aSQ {x y:Nat} (f:x<8)(j:y<8):gW .and .i64 (x:Int) (y:Int)=((x &&& y:Nat):Int):=by
 have e:∀a:Fin 8,∀b:Fin 8,gW .and .i64 (a.val:Int) (b.val:Int)=((a.val &&& b.val:Nat):Int):=by decide
 exact e ⟨x,f⟩ ⟨y,j⟩
theorem bLH:aN Tryz.prog 120 [] [] (.agg (Pg.mk z16 0 0).c) []:=run_eq E1 40 (by kernel_rfl)
theorem bLI:aN Tryz.prog 122 [] [] (.agg (Pg.mk z16 3 0).c) []:=run_eq E1 40 (by kernel_rfl)
theorem bEQ(p:Pg)(h:gJ p):aN Tryz.prog 260 [] [.agg p.c] (.bool true) []:=by
 obtain⟨b,v,d⟩:=p;obtain⟨f,h2,j,h4⟩:=h;dsimp only at f h2 j h4;have e:=mJ (x:=d) (y:=v) (by omega) (by omega);rw [h4] at e;show aN Tryz.prog 260 [] [.agg [.str b,.int .i64 (v:Int),.int .i64 (d:Int)]] (.bool true) [];refine cG Tryz.func260 ?_;refine Wk ?_
 rw [e,show((b.size:Int)==16)=true from zbe.2 (by omega),show decide ((0:Int)<=(v:Int))=true from zdt (by omega),show decide ((v:Int)<=3)=true from zdt (by omega),show decide ((0:Int)<=(d:Int))=true from zdt (by omega),show decide ((d:Int)<=3)=true from zdt (by omega)];exact Lf
def aGS(p:Pg)(s:Nat):Pg:=⟨p.b,p.v,p.d ||| (s &&& p.v)⟩
def aVF(p:Pg)(s:Nat):Pg:=⟨p.b,p.v,sF false p.d s⟩
theorem bLX(p:Pg)(h:gJ p)(s:Nat)(z:s<4):aN Tryz.prog 176 [] [.agg p.c,.int .i64 (s:Int)] (.tup [.agg (aGS p s).c,.int .i64 0]) []:=by
 have e:=bEQ p h;obtain⟨b,v,d⟩:=p;obtain⟨f,h2,j,h4⟩:=h;dsimp only at f h2 j h4;show aN Tryz.prog 176 [] [.agg [.str b,.int .i64 (v:Int),.int .i64 (d:Int)],.int .i64 (s:Int)] (.tup [.agg [.str b,.int .i64 (v:Int),.int .i64 ((d ||| (s &&& v):Nat):Int)],.int .i64 0]) []
 refine cG Tryz.func176 ?_;refine cS e ?_;rw [show decide ((s:Int)<0)=false from zdf (by omega),show decide ((3:Int)< (s:Int))=false from zdf (by omega)];refine Wk ?_;rw [aSQ (x:=s) (y:=v) (by omega) (by omega),iJ (x:=d) (y:=s &&& v) (by omega) (by have :=Nat.and_le_right (n:=s) (m:=v);omega)];exact Lf
theorem aAU {p:Pg} (h:gJ p) {s:Nat} (j:s<4):gJ (aGS p s):=by
 have e:∀v d s:Fin 4,sF false d.val v.val=0->(d.val ||| (s.val &&& v.val))<4/\sF false (d.val ||| (s.val &&& v.val)) v.val=0:=by decide
 obtain⟨h5,f⟩:=e ⟨p.v,h.v⟩ ⟨p.d,h.d⟩ ⟨s,j⟩ h.sub;exact⟨h.size,h.v,h5,f⟩
theorem aSZ {p:Pg} (h:gJ p) {s:Nat} (j:s<4):gJ (aVF p s):=by
 have e:∀v d s:Fin 4,sF false d.val v.val=0->sF false d.val s.val<4/\sF false (sF false d.val s.val) v.val=0:=by decide
 obtain⟨h5,f⟩:=e ⟨p.v,h.v⟩ ⟨p.d,h.d⟩ ⟨s,j⟩ h.sub;exact⟨h.size,h.v,h5,f⟩
def aDF(off n a:Nat):Nat->Nat
 |0=>0
 |j+1=>aDF off n a j+bif decide (off<=a+j)&&decide (a+j<off+n) then 1 else 0
def aKI(off n:Nat):Nat->Nat
 |0=>0
 |k+1=>bif decide (0<aDF off n (k*8) 8) then aKI off n k ||| 2^k else aKI off n k
def aJ7(off n:Nat):Nat->Nat
 |0=>0
 |k+1=>bif aDF off n (k*8) 8==8 then aJ7 off n k ||| 2^k else aJ7 off n k
def tch(off n:Nat):Nat:=aKI off n 2
def cov(off n:Nat):Nat:=aJ7 off n 2
theorem aQ6(off n a:Nat):∀j,aDF off n a j<=j
 |0=>zJ 0
 |j+1=>by have :=aQ6 off n a j;rw [aDF];cases(decide (off<=a+j)&&decide (a+j<off+n))<;> simp <;> omega
theorem aE8(off n:Nat) {k:Nat} (j:k<=2):aKI off n k<4/\aJ7 off n k<4:=by
 have f:∀x y:Bool,(bif y then(bif x then 0 ||| 2^0 else 0)||| 2^1 else(bif x then 0 ||| 2^0 else 0))<4:=by decide
 have e:∀x:Bool,(bif x then 0 ||| 2^0 else 0)<4:=by decide
 match k,j with
 |0,_=>exact⟨by show 0<4;decide,by show 0<4;decide⟩
 |1,_=>exact⟨e _,e _⟩
 |2,_=>exact⟨f _ _,f _ _⟩
theorem aYQ {k:Nat} (e:k<2):IntKind.i64.wrap (1*2^min (k:Int).toNat IntKind.i64.bits)=((2^k:Nat):Int):=by
 match k,e with
 |0,_=>decide
 |1,_=>decide
theorem bER(off n:Nat)(h:off+n<=16):aN Tryz.prog 264 [] [.int .i64 (off:Int),.int .i64 (n:Int)] (.tup [.int .i64 (tch off n:Int),.int .i64 (cov off n:Int)]) []:=by
 unfold tch cov;refine cG Tryz.func264 ?_;refine Wk ?_;refine⟨Nat,λk=>k<=2,λk=>⟨[(0,⟨[],true,.int .i64 (off:Int)⟩),(1,⟨[],true,.int .i64 (n:Int)⟩),(6,⟨[],true,.int .i64 (aKI off n k:Int)⟩),(7,⟨[],true,.int .i64 (aJ7 off n k:Int)⟩),(8,⟨[],true,.int .i64 (k:Int)⟩)],[],0⟩,λk=>2-k,⟨0,Nat.zero_le _,?_⟩,λk E=>?_⟩
 ·exact Vw []
 dsimp only at E⊢;refine Wk ?_;refine aC (λm=>?_) (λm=>?_)<;> try simp only [zD,zA,zF,zE,zG] at m
 ·have m:k<2:=by simp at m;omega
  obtain⟨J,H⟩:=aE8 off n E;refine Wk ?_;rw [aO (n:=(k:Int)*8) (by omega) (by omega),show(k:Int)*8=((k*8+0:Nat):Int) by omega];refine Wk ?_;refine⟨Nat,λj=>j<=8,λj=>⟨[(0,⟨[],true,.int .i64 (off:Int)⟩),(1,⟨[],true,.int .i64 (n:Int)⟩),(6,⟨[],true,.int .i64 (aKI off n k:Int)⟩),(7,⟨[],true,.int .i64 (aJ7 off n k:Int)⟩),(8,⟨[],true,.int .i64 (k:Int)⟩),(9,⟨[],true,.int .i64 (aDF off n (k*8) j:Int)⟩),(10,⟨[],true,.int .i64 ((k*8+j:Nat):Int)⟩)],[],0⟩,λj=>8-j,⟨0,Nat.zero_le _,?_⟩,λj G=>?_⟩
  ·exact Vw []
  dsimp only at G⊢;have C:=aQ6 off n (k*8) j;refine Wk ?_;rw [aO (n:=(k:Int)+1) (by omega) (by omega),aO (n:=((k:Int)+1)*8) (by omega) (by omega)];refine aC (λB=>?_) (λB=>?_)<;> try simp only [zD,zA,zF,zE,zG] at B
  ·have B:j<8:=by simp at B;omega
   have f:aDF off n (k*8) (j+1)=aDF off n (k*8) j+bif decide (off<=k*8+j)&&decide (k*8+j<off+n) then 1 else 0:=rfl
   refine Wk ?_;rw [aO (n:=(off:Int)+(n:Int)) (by omega) (by omega),show(bif decide ((off:Int)<=((k*8+j:Nat):Int)) then decide (((k*8+j:Nat):Int)< (off:Int)+(n:Int)) else false)=(decide (off<=k*8+j)&&decide (k*8+j<off+n)) by rw [show decide ((off:Int)<=((k*8+j:Nat):Int))=decide (off<=k*8+j) from decide_eq_decide.2 (by omega),show decide (((k*8+j:Nat):Int)< (off:Int)+(n:Int))=decide (k*8+j<off+n) from decide_eq_decide.2 (by omega)];cases decide (off<=k*8+j)<;> rfl]
   cases F:(decide (off<=k*8+j)&&decide (k*8+j<off+n)) with
   |true=> rw [F,zct] at f;refine Wk ?_;rw [aO (n:=((aDF off n (k*8) j:Nat):Int)+1) (by omega) (by omega),aO (n:=((k*8+j:Nat):Int)+1) (by omega) (by omega)];refine⟨j+1,by show j+1<=8;omega,?_,by show 8- (j+1)<8-j;omega⟩;dsimp only;rw [f];exact Vw []
   |false=> rw [F,zcf,Nat.add_zero] at f;refine Wk ?_;rw [aO (n:=((k*8+j:Nat):Int)+1) (by omega) (by omega)];refine⟨j+1,by show j+1<=8;omega,?_,by show 8- (j+1)<8-j;omega⟩;dsimp only;rw [f];exact Vw []
  have B:j=8:=by simp at B;omega
  subst B;have e1:aKI off n (k+1)=bif decide (0<aDF off n (k*8) 8) then aKI off n k ||| 2^k else aKI off n k:=rfl
  have e:aJ7 off n (k+1)=bif aDF off n (k*8) 8==8 then aJ7 off n k ||| 2^k else aJ7 off n k:=rfl
  have z:2^k<8:=by rcases(show k=0\/k=1 by omega) with rfl |rfl <;> decide
  generalize aDF off n (k*8) 8=c at C e1 e;refine Wk ?_;rw [show decide ((0:Int)< (c:Int))=decide (0<c) from decide_eq_decide.2 (by omega)]
  cases D:decide (0<c) with
  |true=>
   rw [D,zct] at e1;refine Wk ?_;rw [aYQ m,iJ (by omega) z]
   rw [show((c:Int)==8)=(c==8) by cases h4:(c==8) with
    |true=>exact zbe.2 (by have :=zbe.1 h4;omega)
    |false=>exact zbn.2 (by have :=zbn.1 h4;omega)]
   cases h4:(c==8) with
   |true=> rw [h4,zct] at e;refine Wk ?_;rw [aYQ m,iJ (by omega) z,dW (by omega)];refine⟨k+1,by show k+1<=2;omega,?_,by show 2- (k+1)<2-k;omega⟩;dsimp only;rw [e1,e];exact Vw []
   |false=> rw [h4,zcf] at e;refine Wk ?_;rw [dW (by omega)];refine⟨k+1,by show k+1<=2;omega,?_,by show 2- (k+1)<2-k;omega⟩;dsimp only;rw [e1,e];exact Vw []
  |false=>
   rw [D,zcf] at e1;refine Wk ?_
   rw [show((c:Int)==8)=(c==8) by cases h4:(c==8) with
    |true=>exact zbe.2 (by have :=zbe.1 h4;omega)
    |false=>exact zbn.2 (by have :=zbn.1 h4;omega)]
   cases h4:(c==8) with
   |true=> rw [h4,zct] at e;refine Wk ?_;rw [aYQ m,iJ (by omega) z,dW (by omega)];refine⟨k+1,by show k+1<=2;omega,?_,by show 2- (k+1)<2-k;omega⟩;dsimp only;rw [e1,e];exact Vw []
   |false=> rw [h4,zcf] at e;refine Wk ?_;rw [dW (by omega)];refine⟨k+1,by show k+1<=2;omega,?_,by show 2- (k+1)<2-k;omega⟩;dsimp only;rw [e1,e];exact Vw []
 have m:k=2:=by simp at m;omega
 subst m;refine Wk ?_;exact Lf
def aCN(p:Pg)(off n:Nat)(w:Bool):Nat:=sF false (bif w then sF false (tch off n) (cov off n) else tch off n) p.v
theorem bMN(off n:Nat)(h:off+n<=16):aN Tryz.prog 263 [] [.int .i64 (off:Int),.int .i64 (n:Int)] (.bool true) []:=by refine cG Tryz.func263 ?_;refine Wk ?_;rw [aO (n:=16- (off:Int)) (by omega) (by omega),show decide ((0:Int)<=(off:Int))=true from zdt (by omega),show decide ((0:Int)<=(n:Int))=true from zdt (by omega),show decide ((off:Int)<=16)=true from zdt (by omega),show decide ((n:Int)<=16- (off:Int))=true from zdt (by omega)];exact Lf
theorem aXA(p:Pg)(h:gJ p)(off n:Nat)(B:off+n<=16)(w:Bool):aN Tryz.prog 164 [] [.agg p.c,.int .i64 (off:Int),.int .i64 (n:Int),.bool w] (.tup [.int .i64 (aCN p off n w:Int),.int .i64 0]) []:=by
 have f:=bEQ p h;have j:=bMN off n B;have m:=bER off n B;obtain⟨h5,z⟩:=aE8 off n (zJ 2);have h5:tch off n<4:=h5;have z:cov off n<4:=z;obtain⟨b,v,d⟩:=p;obtain⟨C,h2,D,h4⟩:=h;dsimp only at C h2 D h4;generalize e:aCN ⟨b,v,d⟩ off n w=q;unfold aCN at e;dsimp only at e;generalize tch off n=x at *;generalize cov off n=y at *;have E:sF false x y<8:=aVC (by omega) (by omega)
 show aN Tryz.prog 164 [] [.agg [.str b,.int .i64 (v:Int),.int .i64 (d:Int)],.int .i64 (off:Int),.int .i64 (n:Int),.bool w] _ [];refine cG Tryz.func164 ?_;refine Wk3 f j m ?_
 cases w with
 |true=>
  refine Wk ?_;rw [mJ (x:=x) (y:=y) (by omega) (by omega)];rw [mJ E (by omega)];subst e
  try subst e
  exact Lf
 |false=>
  refine Wk ?_;rw [mJ (x:=x) (y:=v) (by omega) (by omega)];subst e
  try subst e
  exact Lf
def aGZ(b:ByteArray)(off:Nat)(s:ByteArray):ByteArray:=b.extract 0 off++s++b.extract (off+s.size) b.size
def tQ(p:Pg)(off:Nat)(s:ByteArray):Pg:=⟨aGZ p.b off s,p.v ||| tch off s.size,p.d ||| tch off s.size⟩
theorem pO(b:ByteArray)(i j:Nat):(b.extract i j).size=min j b.size-i:=by simp [ByteArray.size_extract]
theorem aEO(a b:ByteArray):(a++b).size=a.size+b.size:=ByteArray.size_append
theorem bEM(p:Pg)(h:gJ p)(off:Nat)(s:ByteArray)(j:off+s.size<=16)(B:aCN p off s.size true=0):aN Tryz.prog 220 [] [.agg p.c,.int .i64 (off:Int),.str s] (.tup [.agg (tQ p off s).c,.int .i64 0]) []:=by
 have e:=aXA p h off s.size j true;have f:=bER off s.size j;rw [B] at e;obtain⟨h5,C⟩:=aE8 off s.size (zJ 2);have h5:tch off s.size<4:=h5;obtain⟨b,v,d⟩:=p;obtain⟨m,h2,z,h4⟩:=h;dsimp only at m h2 z h4;show aN Tryz.prog 220 [] [.agg [.str b,.int .i64 (v:Int),.int .i64 (d:Int)],.int .i64 (off:Int),.str s] (.tup [.agg [.str (aGZ b off s),.int .i64 ((v ||| tch off s.size:Nat):Int),.int .i64 ((d ||| tch off s.size:Nat):Int)],.int .i64 0]) []
 generalize tch off s.size=x at *;refine cG Tryz.func220 ?_;refine Wk2 e f ?_;refine⟨λ_=>⟨by omega,by omega,by omega⟩,?_⟩;refine Wk ?_;refine⟨λ_=>by rw [pO];omega,?_⟩;refine Wk ?_;rw [aO (n:=(off:Int)+(s.size:Int)) (by omega) (by omega),show(off:Int)+(s.size:Int)=((off+s.size:Nat):Int) by omega];refine Wk ?_;refine⟨λ_=>⟨by omega,by omega,by omega⟩,?_⟩;refine Wk ?_;refine⟨λ_=>by rw [aEO,pO,pO];omega,?_⟩;refine Wk ?_;rw [iJ (x:=v) (by omega) (by omega)];refine Wk ?_
 rw [iJ (x:=d) (by omega) (by omega)];refine Wk ?_;exact Lf
structure Df where
 dev:Int
 slot:Int
 E:dA
 size:Nat
 blocks:Nat
 ec:Int
 ee:Int
def Df.c(f:Df):List V:= [.int .i64 f.dev,.int .i64 f.slot]++can f.E++ [.int .i64 (f.size:Int),.int .i64 (f.blocks:Int),.int .i64 f.ec,.int .i64 f.ee,.int .i64 0,.int .i64 0,.int .i64 0,.int .i64 0,.int .i64 0]
structure Us where
 file:Nat
 page:Nat
 p:Pg
 ten:Nat
 holds:Nat
 rd:Nat
 wr:Nat
def Us.c(u:Us):List V:= [.int .i64 (u.file:Int),.int .i64 (u.page:Int),.str u.p.b,.int .i64 (u.p.v:Int),.int .i64 (u.p.d:Int),.int .i64 (u.ten:Int),.int .i64 (u.holds:Int),.int .i64 (u.rd:Int),.int .i64 (u.wr:Int)]
def frC(o:Option Us):List V:=match o with
 |none=>fre.c
 |some u=>u.c
structure Dc where
 fl:List Df
 fr:List (Option Us)
 zo:List Zn
 gr:List Gr
 ls:List Ls
 ck:List Int
 pt:List Pt
def bU(L:List Df):List (List V):=L.map Df.c
def aY(L:List (Option Us)):List (List V):=L.map frC
def Dc.c(c:Dc):List V:= [.lst 15 false (bU c.fl),.lst 9 false (aY c.fr),.lst 6 false (aJ c.zo),.lst 3 false (aR c.gr),.lst 3 false (bG c.ls),.lst 1 false (aB c.ck),.lst 5 false (aU c.pt)]
theorem cO(L:List Df):(bU L).length=L.length:=List.length_map _
theorem dJ(L:List (Option Us)):(aY L).length=L.length:=List.length_map _
def Dc.o(c:Dc):List V:= [.sl 0 0 c.fl.length,.sl 1 0 c.fr.length,.lst 6 false (aJ c.zo),.sl 2 0 c.gr.length,.sl 3 0 c.ls.length,.sl 4 0 c.ck.length,.lst 5 false (aU c.pt)]
def Dc.ob(c:Dc):List Sk.Obj:= [.row 15 (bU c.fl),.row 9 (aY c.fr),.row 3 (aR c.gr),.row 3 (bG c.ls),.row 1 (aB c.ck)]
structure SmD(c:Dc):Prop where
 fl:c.fl.length<=8
 fr:c.fr.length<=64
 gr:c.gr.length<=4
 ls:c.ls.length<=4
 ck:c.ck.length<=4
theorem aP1(c:Dc)(h:SmD c):aN Tryz.prog 85 [] [.agg c.c] (.agg c.o) c.ob:=by
 obtain⟨f,j,B,gr,m,e,z⟩:=c;obtain⟨C,h2,D,h4,h5⟩:=h;dsimp only at C h2 D h4 h5
 show aN Tryz.prog 85 [] [.agg [.lst 15 false (bU f),.lst 9 false (aY j),.lst 6 false (aJ B),.lst 3 false (aR gr),.lst 3 false (bG m),.lst 1 false (aB e),.lst 5 false (aU z)]]
  (.agg [.sl 0 0 f.length,.sl 1 0 j.length,.lst 6 false (aJ B),.sl 2 0 gr.length,.sl 3 0 m.length,.sl 4 0 e.length,.lst 5 false (aU z)]) [.row 15 (bU f),.row 9 (aY j),.row 3 (aR gr),.row 3 (bG m),.row 1 (aB e)]
 refine cG Tryz.func85 ?_;refine Wk ?_;refine cC (by rw [cO];omega) (by rw [cO];omega) ?_;refine Wk ?_;refine cC (by rw [dJ];omega) (by rw [dJ];omega) ?_;refine Wk ?_;refine cC (by rw [aK];omega) (by rw [aK];omega) ?_;refine Wk ?_;refine cC (by rw [bW];omega) (by rw [bW];omega) ?_;refine Wk ?_;refine cC (by rw [aA];omega) (by rw [aA];omega) ?_;refine Wk ?_;rw [cO,dJ,aK,bW,aA];exact⟨[some 2,some 3,some 4,some 5,some 6],Cl,rfl,Cl,rfl,Cl⟩
theorem bO3 {k:Nat} (f:k<8):IntKind.i64.wrap (1*2^min (k:Int).toNat IntKind.i64.bits)=((2^k:Nat):Int):=by
 have e:∀k:Fin 8,IntKind.i64.wrap (1*2^min (k.val:Int).toNat IntKind.i64.bits)=((2^k.val:Nat):Int):=by decide
 exact e ⟨k,f⟩
theorem aV4 {x k:Nat} (j:x<256)(f:k<8):gW .and .i64 (x:Int) ((2^k:Nat):Int)=((x &&& 2^k:Nat):Int):=by
 have e:∀x:Fin 256,∀k:Fin 8,gW .and .i64 (x.val:Int) ((2^k.val:Nat):Int)=((x.val &&& 2^k.val:Nat):Int):=by decide +kernel
 exact e ⟨x,j⟩ ⟨k,f⟩
def uX(blocks page:Nat):Bool:=((blocks &&& 2^page:Nat):Int)==0
theorem bE8(f:Df)(G:bK f.E)(j:Nat)(B:j<8)(z:f.blocks<256):aN Tryz.prog 121 [] [.agg f.c,.int .i64 (j:Int)] (.bool (uX f.blocks j)) []:=by obtain⟨k0,k1,k2,k3,e⟩:=cB G;obtain⟨F,D,E,C,m,H,J⟩:=f;dsimp only at z e;unfold Df.c;dsimp only;rw [e];refine cG Tryz.func121 ?_;refine Wk ?_;refine⟨λ_=>by omega,?_⟩;refine Wk ?_;rw [bO3 B,aV4 z B];exact Lf
theorem aCQ(c:Dc)(f:Nat)(z:f<c.fl.length):aN Tryz.prog 115 [] [.agg c.c,.int .i64 (f:Int)] (.bool true) []:=by obtain⟨e,m,D,gr,B,j,C⟩:=c;dsimp only at z;show aN Tryz.prog 115 [] [.agg [.lst 15 false (bU e),.lst 9 false (aY m),.lst 6 false (aJ D),.lst 3 false (aR gr),.lst 3 false (bG B),.lst 1 false (aB j),.lst 5 false (aU C)],.int .i64 (f:Int)] (.bool true) [];refine cG Tryz.func115 ?_;refine Wk ?_;rw [cO,show decide ((0:Int)<=(f:Int))=true from zdt (by omega),show decide ((f:Int)< (e.length:Int))=true from zdt (by omega)];exact Lf
def bC:Df:=⟨0,0,λ_=>(0,0),0,0,0,0⟩
theorem gQ(L:List Df)(k:Nat)(h:k<L.length):(bU L).getD k []=(L.getD k bC).c:=by simp [bU,zH,h]
theorem gR(L:List (Option Us))(k:Nat)(h:k<L.length):(aY L).getD k []=frC (L.getD k none):=by simp [aY,zH,h]
def mE(E:dA)(u:Us):dA:=sZ (sZ E u.page (u.p.d != 0) 1) u.page (u.wr != 0) 2
theorem tC(E:dA)(i m:Nat)(on:Bool)(j:Nat):(sZ E i on m j).1=(E j).1:=by
 unfold sZ
 by_cases e:j=i
 ·subst e;rw [fN]
 ·rw [eL e]
theorem Sup.mrk {E:dA} (h:Sup E) {i m:Nat} {on:Bool} :Sup (sZ E i on m):=λj e=>by rw [tC];exact h j e
theorem bE1 {E:dA} (f:bK E)(j:Sup E) {u:Us} (hv:0< (E u.page).1):bK (mE E u)/\Sup (mE E u):=by have e:=f.mrk (i:=u.page) (m:=1) (on:=(u.p.d != 0)) (by decide) hv;exact⟨e.mrk (i:=u.page) (m:=2) (on:=(u.wr != 0)) (by decide) (by rw [tC];exact hv),j.mrk.mrk⟩
def gU(f:Df)(E:dA):Df:=⟨f.dev,f.slot,E,f.size,f.blocks,f.ec,f.ee⟩
theorem aAP(L:List Df)(k:Nat)(E:dA)(h:k<L.length)(m:bK (L.getD k bC).E)(f:bK E):(bU L).set k (aS 15 ((bU L).getD k []) 2 (can E))=bU (L.set k (gU (L.getD k bC) E)):=by
 rw [gQ L k h,bU,bU,List.map_set];obtain⟨k0,k1,k2,k3,e⟩:=cB m;obtain⟨z,q1,q2,B,j⟩:=cB f
 congr 1
 unfold Df.c gU;dsimp only;rw [e,j];rfl
structure aPW(c:Dc)(n:Nat)(u:Us):Prop where
 at_:n<c.fr.length
 get:c.fr.getD n none=some u
 file:u.file<c.fl.length
 page:u.page<16
 E:bK (c.fl.getD u.file bC).E
 sup:Sup (c.fl.getD u.file bC).E
 val:0< ((c.fl.getD u.file bC).E u.page).1
 pg:gJ u.p
 ten:u.ten<c.ls.length
 rd:u.rd<4
 wr:u.wr<4
def Dc.mark(c:Dc)(u:Us):Dc:=⟨c.fl.set u.file (gU (c.fl.getD u.file bC) (mE (c.fl.getD u.file bC).E u)),c.fr,c.zo,c.gr,c.ls,c.ck,c.pt⟩
theorem okb {E:dA} (e:bK E)(f:Sup E)(i:Nat)(hi:i<16)(m:Nat)(hm:m=1\/m=2\/m=4)(hv:0< (E i).1)(on:Bool):
 aN Tryz.prog (bif on then 319 else 320) [] [.agg (can E),.int .i64 (i:Int),.int .i64 (m:Int)] (.tup [.agg (can (sZ E i on m)),.int .i64 0]) []:=by
 cases on
 ·exact bNB e f i hi m hm hv
 ·exact bNA e f i hi m hm hv
theorem bMM(c:Dc)(n:Nat)(u:Us)(hc:SmD c)(h:aPW c n u):aN Tryz.prog 252 c.ob [.agg c.o,.int .i64 ((n+1:Nat):Int)] (.agg (c.mark u).o) (c.mark u).ob:=by
 obtain⟨T,h2,H,h4,h5,Q,J,h8,h9,W,Y⟩:=h;obtain⟨C,G,zo,gr,O,M,pt⟩:=c;obtain⟨s1,s2,s3,s4,s5⟩:=hc;dsimp only at T h2 H h5 Q J h9 s1 s2 s3 s4 s5;have D:=gR G n T;rw [h2] at D;have D:(aY G).getD n []=u.c:=D;have F:=gQ C u.file H;obtain⟨m1,m2⟩:=bE1 h5 Q J;have z:=aAP C u.file _ H h5 m1;rw [F] at z;unfold Dc.mark;dsimp only;generalize ae:C.getD u.file bC=f at *
 show aN Tryz.prog 252 [.row 15 (bU C),.row 9 (aY G),.row 3 (aR gr),.row 3 (bG O),.row 1 (aB M)] [.agg [.sl 0 0 C.length,.sl 1 0 G.length,.lst 6 false (aJ zo),.sl 2 0 gr.length,.sl 3 0 O.length,.sl 4 0 M.length,.lst 5 false (aU pt)],.int .i64 ((n+1:Nat):Int)]
  (.agg [.sl 0 0 (C.set u.file (gU f (mE f.E u))).length,.sl 1 0 G.length,.lst 6 false (aJ zo),.sl 2 0 gr.length,.sl 3 0 O.length,.sl 4 0 M.length,.lst 5 false (aU pt)]) [.row 15 (bU (C.set u.file (gU f (mE f.E u)))),.row 9 (aY G),.row 3 (aR gr),.row 3 (bG O),.row 1 (aB M)]
 rw [zC];generalize bU (C.set u.file (gU f (mE f.E u)))=R at z⊢;obtain⟨j,B,⟨b,v,d⟩,ad,holds,rd,K⟩:=u;have D:(aY G).getD n []=[.int .i64 (j:Int),.int .i64 (B:Int),.str b,.int .i64 (v:Int),.int .i64 (d:Int),.int .i64 (ad:Int),.int .i64 (holds:Int),.int .i64 (rd:Int),.int .i64 (K:Int)]:=D;dsimp only [mE] at H h4 J h8 W Y z F m1 m2;obtain⟨k0,k1,k2,k3,e⟩:=cB h5
 have ab:f.c=[.int .i64 f.dev,.int .i64 f.slot,.int .i64 (hgt f.E:Int),.lst k0 k1 k2,.int .i64 k3,.int .i64 (nS f.E 0 (4^hgt f.E):Nat),.int .i64 (f.size:Int),.int .i64 (f.blocks:Int),.int .i64 f.ec,.int .i64 f.ee,.int .i64 0,.int .i64 0,.int .i64 0,.int .i64 0,.int .i64 0]:=by unfold Df.c;rw [e];rfl
 rw [ab] at F z;have Z:=h8.d;dsimp only at Z;refine eX (ob0:= [.row 15 (bU C),.row 9 (aY G),.row 3 (aR gr),.row 3 (bG O),.row 1 (aB M)]) [] Tryz.func252 rfl rfl rfl rfl ?_;refine Wk ?_;rw [aO (n:=((n+1:Nat):Int)-1) (by omega) (by omega),show((n+1:Nat):Int)-1=(n:Int) by omega,show decide (0<=(n:Int)/\(n:Int)< (G.length:Int))=true from zdt ⟨by omega,by omega⟩];refine Wk ?_
 rw [show 0+(n:Int).toNat=n by omega,show decide (n< (aY G).length)=true from zdt (by rw [dJ];exact T),D];refine Wk ?_;rw [show decide (0<=(j:Int)/\(j:Int)< (C.length:Int))=true from zdt ⟨by omega,by omega⟩];refine Wk ?_;rw [show 0+(j:Int).toNat=j by omega,show decide (j< (bU C).length)=true from zdt (by rw [cO];exact H),F];refine Wk ?_
 have aa:(((d:Nat):Int) != 0)=(d != 0):=by
  cases N:(d != 0) with
  |true=>rw [bne_iff_ne] at N⊢;omega
  |false=>rw [bne_eq_false_iff_eq] at N⊢;omega
 have ac:(((K:Nat):Int) != 0)=(K != 0):=by
  cases N:(K != 0) with
  |true=>rw [bne_iff_ne] at N⊢;omega
  |false=>rw [bne_eq_false_iff_eq] at N⊢;omega
 have n1:=h5.mrk (i:=B) (m:=1) (on:=d != 0) (by decide) J;have n2:=Q.mrk (i:=B) (m:=1) (on:=d != 0);have j1:=okb h5 Q B h4 1 (.inl rfl) J (d != 0);have j2:=okb n1 n2 B h4 2 (.inr (.inl rfl)) (by rw [tC];exact J) (K != 0);obtain⟨p0,p1,p2,p3,e1⟩:=cB n1;obtain⟨r0,r1,r2,r3,e2⟩:=cB m1;rw [e,e1] at j1;rw [e1,e2] at j2;rw [e2] at z;rw [aa];generalize(d != 0)=bd at *;generalize(K != 0)=bw at *;cases bd <;> cases bw
 all_goals
  dsimp only [zct,zcf] at j1 j2;refine cS j1 ?_;rw [ac];refine cS j2 ?_;rw [show decide (0<=(j:Int)/\(j:Int)< (C.length:Int))=true from zdt ⟨by omega,by omega⟩];refine Wk ?_;rw [show 0+(j:Int).toNat=j by omega,show decide (j< (bU C).length)=true from zdt (by rw [cO];exact H),F];refine Wk ?_;refine⟨[some 0,some 1,some 2,some 3,some 4],?_,rfl,?_,rfl,?_⟩
  all_goals repeat' (first |exact trivial |rfl |exact .inl rfl |exact .inr rfl |exact id |exact zbc |apply And.intro)
  exact z
def Dc.setU(c:Dc)(n:Nat)(u:Us):Dc:=⟨c.fl,c.fr.set n (some u),c.zo,c.gr,c.ls,c.ck,c.pt⟩
def Dc.put(c:Dc)(n:Nat)(u:Us):Dc:=(c.setU n u).mark u
theorem bLT(c:Dc)(n:Nat)(u:Us)(j:SmD c)(h:aPW (c.setU n u) n u):aN Tryz.prog 155 [] [.agg c.c,.int .i64 ((n+1:Nat):Int),.agg u.c] (.agg (c.put n u).c) []:=by
 have B:n<c.fr.length:=by have :=h.at_;simpa [Dc.setU] using this
 have C:SmD (c.setU n u):=⟨j.fl,by show(c.fr.set n (some u)).length<=64;rw [zC];exact j.fr,j.gr,j.ls,j.ck⟩;have e:=bMM (c.setU n u) n u C h;have D:=aP1 c j;unfold Dc.put;obtain⟨G,f,R,gr,M,E,O⟩:=c;have z:=j.fr;dsimp only at B z
 have m:(aY f).set n (aS 9 ((aY f).getD n []) 0 u.c)=aY (f.set n (some u)):=by
  rw [gR f n B];have :aS 9 (frC (f.getD n none)) 0 u.c=u.c:=by cases f.getD n none <;> rfl
  rw [this];unfold aY;rw [List.map_set];rfl
 generalize W:(Dc.setU ⟨G,f,R,gr,M,E,O⟩ n u).mark u=q at e⊢;obtain⟨H,J,T,K,N,F,Q⟩:=q;unfold Dc.o Dc.ob Dc.setU at e;dsimp only at e;rw [zC,<-m] at e;refine cG Tryz.func155 ?_;refine Wk ?_;refine .inr ⟨λ_=>⟨[],_,_,_,D,trivial,rfl,rfl,rfl,?_⟩,(by intro h;cases h)⟩
 refine Wk ?_;rw [aO (n:=((n+1:Nat):Int)-1) (by omega) (by omega),show((n+1:Nat):Int)-1=(n:Int) by omega,show decide (0<=(n:Int)/\(n:Int)< (f.length:Int))=true from zdt ⟨by omega,by omega⟩];refine Wk ?_;rw [show 0+(n:Int).toNat=n by omega,show decide (n< (aY f).length)=true from zdt (by rw [dJ];exact B)];refine Wk ?_;refine .inr ⟨λ_=>⟨[3,4,5,6,7],_,_,_,e,⟨rfl,rfl,rfl,rfl,rfl,trivial⟩,rfl,rfl,rfl,?_⟩,(by intro h;cases h)⟩
 refine Wk ?_;refine⟨[],trivial,rfl,trivial,rfl,?_⟩
 repeat' (first |exact trivial |rfl |exact .inl rfl |exact .inr rfl |exact id |exact zbc |apply And.intro)
 all_goals first
  |exact cM rfl (cO _)
  |exact cM rfl (dJ _)
  |exact cM rfl (aK _)
  |exact cM rfl (bW _)
  |exact cM rfl (aA _)
  | (rw [cO];omega)
  | (rw [dJ];omega)
  | (rw [aK];omega)
  | (rw [bW];omega)
  | (rw [aA];omega)
  |trace_state
end Go.Proofs.YtmhapcbjjpadnaaGreat
