/- Caches. -/
import Derived.Test.YtmhapcbjjpadnaaGreatGEo
set_option linter.all false
set_option maxHeartbeats 2000000
set_option maxRecDepth 40000
open List renaming getD_eq_getElem?_getD→zA,length_map→zC,length_take→zF
open Nat renaming min_eq_left→zD,le_of_lt→zE,zero_le→zG,le_refl→zH
namespace Go.Proofs.YtmhapcbjjpadnaaGreat
open Go Go.Sk Go.RowKit
def aRI(b s:List UInt8)(f:Nat->Bool)(i:Nat):List UInt8:=(List.range b.length).map λj=>bif decide (j<i)&&f (j/8) then s.getD j 0 else b.getD j 0
theorem aTV(b s:List UInt8)(f:Nat->Bool)(i:Nat):(aRI b s f i).length=b.length:=by simp [aRI]
def bKT(s v q:Nat):Bool:=bif (((s &&& 2^q:Nat):Int) != 0) then(((v &&& 2^q:Nat):Int)==0) else false
def bDV(p:Pg)(s:Nat)(d:ByteArray):Pg:=⟨⟨(aRI p.b.data.toList d.data.toList (bKT s p.v) 16).toArray⟩,p.v ||| s,p.d⟩
def vF(off n:Int):Bool:=decide (0<=off/\0<=n/\off<=128/\n<=128-off)
theorem aFY(off n:Int):aN Tryz.prog 125 [] [.int .i64 off,.int .i64 n] (.bool (vF off n)) []:=by
 have j:(bif bif bif decide (0<=off) then decide (0<=n) else false then decide (off<=128) else false then decide (n<=IntKind.i64.wrap (128-off)) else false)=vF off n:=by
  unfold vF
  by_cases e:0<=off
  ·by_cases f:0<=n
   ·by_cases m:off<=128
    ·rw [aO (n:=128-off) (by omega) (by omega)];simp [e,f,m]
    ·simp [e,f,m]
   ·simp [e,f]
  ·simp [e]
 refine cG Tryz.func125 ?_;refine Wk ?_;rw [j];exact Lf
theorem aES {off n:Nat} (h:off+n<=128):vF (off:Int) (n:Int)=true:=zdt ⟨by omega,by omega,by omega,by omega⟩
theorem bFV {off n:Int} (h:vF off n=true):∃a b:Nat,off=a/\n=b/\a+b<=128:=by have :=of_decide_eq_true h;exact⟨off.toNat,n.toNat,by omega,by omega,by omega⟩
def aLG(off n:Nat):Nat:=(off+n+15)/16-off/16
def pgR(a k:Nat):List (List V):=aB ((List.range' a k).map λx:Nat=>(x:Int))
@[simp] theorem bOL (a k:Nat):(pgR a k).length=k:=by simp [pgR]
theorem aXU(a k:Nat):pgR a (k+1)=pgR a k++ [[.int .i64 ((a+k:Nat):Int)]]:=by simp [pgR,aB,List.range'_concat]
theorem bNP(off n:Int)(h:n<1\/vF off n=false):aN Tryz.prog 66 [] [.int .i64 off,.int .i64 n] (.lst 0 true []) []:=by
 have e:=aFY off n;refine aQ (ob0:= []) [] Tryz.func66 rfl rfl rfl rfl ?_
 by_cases f:n<1
 ·exact Wz
 ·rw [h.resolve_left f] at e;exact Wz
theorem bPP(off n:Nat)(h:1<=n)(h2:off+n<=128):aN Tryz.prog 66 [] [.int .i64 (off:Int),.int .i64 (n:Int)] (.lst 1 false (pgR (off/16) (aLG off n))) []:=by
 have f:=aFY (off:Int) (n:Int);rw [aES h2] at f;refine aQ (ob0:= []) [] Tryz.func66 rfl rfl rfl rfl ?_;have e:aLG off n=(off+n+15)/16-off/16:=rfl;refine Wx ?_;refine Lp (λi:Nat=>i<=aLG off n) (λi=> [(6,.int .i64 ((off/16+i:Nat):Int)),(5,.sl 0 0 i)]) (λi=> [(0,.row 1 (pgR (off/16) i))]) (λi=>aLG off n-i) 0 (zG _) ?_ ?_
 ·exact Vr [none]
 intro i j;refine Wx ?_;refine mD (λb=>?_) (λb=>?_)
 ·refine Wx ?_;refine Le (i+1) (hv:=?_);simp only [aXU];exact Vr [_]
 obtain rfl:i=aLG off n:=by omega
 exact Wz
def bR(p off n:Nat):Nat×Nat:=(max off (p*16)-p*16,min (off+n) ((p+1)*16)-max off (p*16))
theorem bLK(p off n:Nat)(f:p<=8)(h:off+n<=128)(e:off<=(p+1)*16)(h2:p*16<=off+n):aN Tryz.prog 126 [] [.int .i64 (p:Int),.int .i64 (off:Int),.int .i64 (n:Int)] (.tup [.int .i64 ((bR p off n).1:Int),.int .i64 ((bR p off n).2:Int)]) []:=by unfold bR;refine aQ (ob0:= []) [] Tryz.func126 rfl rfl rfl rfl ?_;exact Wz
def nT {α:Type} (g:α->α)(l:List α)(i:Nat):List α:=(l.take i).map g++l.drop i
@[simp] theorem sY {α:Type} (g:α->α) (l:List α) (i:Nat):(nT g l i).length=l.length:=by simp only [nT,List.length_append,zC,zF,List.length_drop];omega
theorem aI8 {α:Type} (g:α->α)(l:List α):nT g l 0=l:=by simp [nT]
theorem aMD {α:Type} (g:α->α)(l:List α):nT g l l.length=l.map g:=by simp [nT]
theorem aFQ {α:Type} (g:α->α)(l:List α)(i:Nat)(d:α)(h:i<l.length):(nT g l i).getD i d=l.getD i d:=by simp [nT,zA,List.getElem?_append,zD (zE h)]
theorem aBR {α:Type} (g:α->α)(l:List α)(i:Nat)(d:α)(h:i<l.length):nT g l (i+1)=(nT g l i).set i (g (l.getD i d)):=by unfold nT;rw [aD5 d h,List.map_append,List.set_append,if_neg (by simp [zD (zE h)]),List.drop_eq_getElem_cons h,zC,zF,zD (zE h),Nat.sub_self,List.set_cons_zero];simp [zA,h]
theorem aTM {α:Type} (g:α->α)(l:List α)(i:Nat)(d:α)(h:i<l.length)(e:g (l.getD i d)=l.getD i d):nT g l (i+1)=nT g l i:=by
 rw [aBR g l i d h,e,<-aFQ g l i d h];apply List.ext_getElem?;intro j;rw [List.getElem?_set];split
 ·rename_i e;subst e;rw [if_pos (by rw [sY];exact h)];have f:i< (nT g l i).length:=by rw [sY];exact h
  rw [zA,List.getElem?_eq_getElem f];rfl
 ·rfl
def aTW(f:Int)(p:Pt):Pt:=bif p.frame==f then⟨p.proc,p.page,p.frame,false,p.acc⟩ else p
def kF(f:Int)(p:Pt):Pt:=bif p.frame==f then⟨p.proc,p.page,p.frame,p.wr,false⟩ else p
def aPB(a b e:Int):Int×Int:=bif a==1000000 then(a,b) else(a+1,e)
def mF(l:List Pt)(e:Pt):Nat->List Pt×Bool
 |0=>([],false)
 |i+1=>(bif (fT (l.getD i p0) e||fT e (l.getD i p0)) then(bif !(mF l e i).2&& !fT (l.getD i p0) e then(mF l e i).1++ [e] else(mF l e i).1)++ [l.getD i p0]
   else(bif !(mF l e i).2&& !fT (l.getD i p0) e then(mF l e i).1++ [e] else(mF l e i).1),(mF l e i).2|| !fT (l.getD i p0) e)
theorem aT5(l:List Pt)(e:Pt)(i:Nat):mF l e (i+1)=(bif (fT (l.getD i p0) e||fT e (l.getD i p0)) then(bif !(mF l e i).2&& !fT (l.getD i p0) e then(mF l e i).1++ [e] else(mF l e i).1)++ [l.getD i p0]
 else(bif !(mF l e i).2&& !fT (l.getD i p0) e then(mF l e i).1++ [e] else(mF l e i).1),(mF l e i).2|| !fT (l.getD i p0) e):=rfl
def bG3(l:List Pt)(e:Pt):List Pt:=bif (mF l e l.length).2 then(mF l e l.length).1 else(mF l e l.length).1++ [e]
def iR(c:Dc)(f p:Nat):Option (Nat×Us):=bif decide (0< ((c.fl.getD f bC).E p).1) then(c.fr.getD (((c.fl.getD f bC).E p).1-1).toNat none).map λu=>((((c.fl.getD f bC).E p).1-1).toNat,u) else none
theorem fM {c:Dc} (h:Ok c) {f p n:Nat} {u:Us} (z:f<c.fl.length)(e:iR c f p=some (n,u)):n<c.fr.length/\c.fr.getD n none=some u/\u.file=f/\u.page=p/\((c.fl.getD f bC).E p).1=((n+1:Nat):Int):=by
 unfold iR at e
 cases j:decide (0< ((c.fl.getD f bC).E p).1) with
 |false=>rw [j] at e;cases e
 |true=> rw [j,zct] at e;obtain⟨m,w,k1,k2,k3,k4,B⟩:=h.ent f p z (of_decide_eq_true j);rw [k2,show(((m+1:Nat):Int)-1).toNat=m by omega,k3] at e;simp only [Option.map_some,zse,Prod.mk.injEq] at e;obtain⟨rfl,rfl⟩:=e;exact⟨k1,k3,k4,B,k2⟩
theorem aMX {c:Dc} (h:Ok c) {f p:Nat} (z:f<c.fl.length)(e:iR c f p=none):((c.fl.getD f bC).E p).1<=0:=by
 unfold iR at e
 cases j:decide (0< ((c.fl.getD f bC).E p).1) with
 |false=>have :=of_decide_eq_false j;omega
 |true=> rw [j,zct] at e;obtain⟨m,w,k1,k2,k3,k4,B⟩:=h.ent f p z (of_decide_eq_true j);rw [k2,show(((m+1:Nat):Int)-1).toNat=m by omega,k3] at e;cases e
theorem aBE(E:dA)(p:Nat):findF E (p:Int)=bif decide ((E p).1<=0) then(0,false) else((E p).1,true):=by unfold findF aC9;rw [zdt (show(0:Int)<=(p:Int) by omega),zct,Int.toNat_natCast]
theorem bGE {c:Dc} (h:Ok c) {f p n:Nat} {u:Us} (j:f<c.fl.length)(e:iR c f p=some (n,u)):findF (c.fl.getD f bC).E (p:Int)=(((n+1:Nat):Int),true):=by have :=(fM h j e).2.2.2.2;rw [aBE,this,zdf (by omega)];rfl
theorem bGD {c:Dc} (h:Ok c) {f p:Nat} (j:f<c.fl.length)(e:iR c f p=none):findF (c.fl.getD f bC).E (p:Int)=(0,false):=by rw [aBE,zdt (aMX h j e)];rfl
theorem Ok.f33s {c:Dc} (h:Ok c) {f p n:Nat} {u:Us} (j:f<c.fl.length)(e:iR c f p=some (n,u)):aN Tryz.prog 33 [] [.agg c.c,.int .i64 (f:Int),.int .i64 (p:Int)] (.tup [.int .i64 ((n+1:Nat):Int),.bool true]) []:=by
 have :=aXQ c f (p:Int) h.sm j (h.file f j).E (h.file f j).sup
 rwa [bGE h j e] at this
theorem Ok.f33n {c:Dc} (h:Ok c) {f p:Nat} (j:f<c.fl.length)(e:iR c f p=none):aN Tryz.prog 33 [] [.agg c.c,.int .i64 (f:Int),.int .i64 (p:Int)] (.tup [.int .i64 0,.bool false]) []:=by
 have :=aXQ c f (p:Int) h.sm j (h.file f j).E (h.file f j).sup
 rwa [bGD h j e] at this
def cnt(off n:Nat):Nat:=bif decide (n=0) then 0 else aLG off n
theorem sH {off n:Nat} (h:off+n<=128):off/16+cnt off n<=8:=by
 unfold cnt aLG
 by_cases e:n=0
 ·rw [zdt e,zct];omega
 ·rw [zdf e,zcf];omega
theorem bF6 {off n k:Nat} (h:k<cnt off n):off< (off/16+k+1)*16/\(off/16+k)*16<off+n/\1<=n:=by
 unfold cnt aLG at h
 by_cases e:n=0
 ·rw [zdt e,zct] at h;omega
 ·rw [zdf e,zcf] at h;omega
theorem aAM(a m k:Nat)(h:k<m):(pgR a m).getD k []=[.int .i64 ((a+k:Nat):Int)]:=by simp [pgR,aB,zA,h]
theorem aMS(off n:Nat)(h2:off+n<=128):aN Tryz.prog 66 [] [.int .i64 (off:Int),.int .i64 (n:Int)] (.lst 1 false (pgR (off/16) (cnt off n))) []:=by
 by_cases e:n=0
 ·have :=bNP (off:Int) (n:Int) (.inl (by omega));unfold cnt;rw [zdt e,zct];exact this.le (mC.refl _) uY.nils (oS.refl _)
 ·have :=bPP off n (by omega) h2;unfold cnt;rw [zdf e,zcf];exact this
theorem aFZ {off n k:Nat} (h:off+n<=128)(e:k<cnt off n):aN Tryz.prog 126 [] [.int .i64 ((off/16+k:Nat):Int),.int .i64 (off:Int),.int .i64 (n:Int)] (.tup [.int .i64 ((bR (off/16+k) off n).1:Int),.int .i64 ((bR (off/16+k) off n).2:Int)]) []:=by have f:=sH h;have h2:=bF6 e;exact bLK _ off n (by omega) h (by omega) (by omega)
theorem oJ {off n k:Nat} (e:k<cnt off n):(bR (off/16+k) off n).1+(bR (off/16+k) off n).2<=16/\1<=(bR (off/16+k) off n).2/\(off/16+k)*16+(bR (off/16+k) off n).1+(bR (off/16+k) off n).2<=off+n/\off<=(off/16+k)*16+(bR (off/16+k) off n).1:=by have h2:=bF6 e;unfold bR;dsimp only;generalize off/16+k=p at *;omega
def kO(u:Us)(off n p:Nat)(w:Bool):Nat:=aCN u.p (bR p off n).1 (bR p off n).2 w
def iW(c:Dc)(f off n:Nat)(w:Bool):Nat->Option (List (Nat×Nat))
 |0=>some []
 |k+1=>match iW c f off n w k,iR c f (off/16+k) with
  |some L,some (m,u)=>some (bif kO u off n (off/16+k) w==0 then L else L++ [(m+1,kO u off n (off/16+k) w)])
  |_,_=>none
theorem aUQ {c:Dc} {f off n:Nat} {w:Bool} {k:Nat} (h:iW c f off n w k=none):∀ {j:Nat},k<=j->iW c f off n w j=none:=by
 intro j z
 induction j with
 |zero=>exact(show k=0 by omega)▸h
 |succ j m=>
  by_cases e:k=j+1
  ·subst e;exact h
  ·have :=m (by omega);rw [iW,this]
theorem aAW {c:Dc} {f off n:Nat} {w:Bool} :∀ {k:Nat} {L:List (Nat×Nat)},iW c f off n w k=some L->L.length<=k
 |0,L,h=>by obtain rfl:=zsi h;exact zH 0
 |k+1,L,h=>by
  rw [iW] at h;split at h
  ·rename_i j m u e h2;have :=aAW e;obtain rfl:=zsi h;cases(kO u off n (off/16+k) w==0)<;> simp <;> omega
  ·cases h
theorem aC8 {c:Dc} {f off n:Nat} {w:Bool} :∀ {j:Nat} {L:List (Nat×Nat)},iW c f off n w j=some L->∀k,k<j->∃m u,iR c f (off/16+k)=some (m,u)
 |0,_,_,k,B=>by omega
 |j+1,L,h,k,B=>by
  rw [iW] at h;split at h
  ·rename_i C m u z h2
   by_cases e:k=j
   ·subst e;exact⟨m,u,h2⟩
   ·exact aC8 z k (by omega)
  ·cases h
def aIM(L:List (Nat×Nat)):List (List V):=L.map λp=> [.int .i64 (p.1:Int),.int .i64 (p.2:Int)]
@[simp] theorem bIW (L:List (Nat×Nat)):(aIM L).length=L.length:=zC _
theorem aUC(L:List (Nat×Nat))(a b:Nat):aIM (L++ [(a,b)])=aIM L++ [[.int .i64 (a:Int),.int .i64 (b:Int)]]:=by simp [aIM]
def bCJ:Option (List (Nat×Nat))->V
 |none=>.tup [.lst 0 true [],.int .i64 4]
 |some L=>.tup [.lst 2 false (aIM L),.int .i64 0]
theorem bHA(c:Dc)(f:Int)(j:¬(0<=f/\f< (c.fl.length:Int))):aN Tryz.prog 115 [] [.agg c.c,.int .i64 f] (.bool false) []:=by
 have e:(bif decide (0<=f) then decide (f< (c.fl.length:Int)) else false)=false:=by
  by_cases a:0<=f
  ·rw [zdt a,zct];exact zdf (λb=>j ⟨a,b⟩)
  ·rw [zdf a,zcf]
 rw [<-e];refine aQ (ob0:= []) [] Tryz.func115 rfl rfl rfl rfl ?_;exact Wz
theorem bNM(c:Dc)(h:Ok c)(f off n:Nat)(E:f<c.fl.length)(D:off+n<=128)(w:Bool):aN Tryz.prog 53 [] [.agg c.c,.int .i64 (f:Int),.int .i64 (off:Int),.int .i64 (n:Int),.bool w] (bCJ (iW c f off n w (cnt off n))) []:=by
 have H:=aCQ c f E;have B:=aFY (off:Int) (n:Int);have R:=aMS off n D;rw [aES D] at B;have T:=sH D;generalize F:bCJ (iW c f off n w (cnt off n))=q;refine aQ (ob0:= []) [] Tryz.func53 rfl rfl rfl rfl ?_;refine Wx ?_;refine Lp (α:=Nat×List (Nat×Nat)) (λa=>a.1<=cnt off n/\iW c f off n w a.1=some a.2) (λa=> [(14,.int .i64 (a.1:Int)),(12,.sl 1 0 a.2.length)]) (λa=> [(1,.row 2 (aIM a.2))]) (λa=>cnt off n-a.1) (0,[]) ⟨zG _,rfl⟩ ?_ ?_
 ·exact Vr [_,none]
 rintro ⟨i,L⟩ ⟨M,j⟩;dsimp only at M j;have W:=aAW j;refine Wx ?_;refine mD (λb=>?_) (λb=>?_)
 ·have b:i<cnt off n:=by omega
  have hg:=aAM (off/16) (cnt off n) i b;have J:=aFZ D b
  cases z:iR c f (off/16+i) with
  |none=>
   have e:iW c f off n w (i+1)=none:=by rw [iW,j,z]
   rw [aUQ e (show i+1<=cnt off n by omega)] at F;subst F;have G:=h.f33n E z;exact Wz
  |some x=>
   obtain⟨m,u⟩:=x;have G:=h.f33s E z;obtain⟨q1,q2,Y,Z,q5⟩:=fM h E z;have O:=h.use m u q1 q2;have C:=aXA u.p O.pg _ _ (oJ b).1 w;have K:=aGJ q1 q2;have N:=h.nr;have e:iW c f off n w (i+1)=some (bif kO u off n (off/16+i) w==0 then L else L++ [(m+1,kO u off n (off/16+i) w)]):=by rw [iW,j,z]
   have Q:aCN u.p (bR (off/16+i) off n).1 (bR (off/16+i) off n).2 w=kO u off n (off/16+i) w:=rfl;rw [Q] at C;generalize kO u off n (off/16+i) w=s at *;refine Wx ?_;refine bA9 (λd=>?_) (λd=>?_)
   ·rw [show(s==0)=false from zbn.2 (by omega),zcf] at e;refine Wx ?_;refine Le (i+1,L++ [(m+1,s)]) (hI:=⟨b,e⟩) (hv:=?_);simp only [aUC];exact Vr [_,_]
   ·rw [show(s==0)=true from zbe.2 (by omega),zct] at e;refine Wx ?_;refine Le (i+1,L) (hI:=⟨b,e⟩) (hv:=?_);exact Vr [_,_]
 obtain rfl:i=cnt off n:=by omega
 rw [j] at F;subst F;exact Wz
theorem Ok.a127 {c:Dc} (h:Ok c) {n:Nat} {u:Us} (e:n<c.fr.length)(f:c.fr.getD n none=some u):aN Tryz.prog 127 [] [.agg c.c,.int .i64 ((n+1:Nat):Int)] (.agg (c.acc n u.ten).c) []:= bLL c n u h.sm e f (by rw [h.nl];exact(h.use n u e f).ten) (h.smL _)
theorem Ok.p155 {c:Dc} (h:Ok c) {n:Nat} {u u':Us} (e:n<c.fr.length)(B:c.fr.getD n none=some u)(j:qY u'=qY u)(m:gJ u'.p)(z:u'.rd<4)(C:u'.wr<4):aN Tryz.prog 155 [] [.agg c.c,.int .i64 ((n+1:Nat):Int),.agg u'.c] (.agg (c.put n u').c) []:=by
 have k:=h.use n u e B;have f:=h.file _ k.file;simp only [qY,Prod.mk.injEq] at j;obtain⟨k1,k2,k3⟩:=j;refine bLT c n u' h.sm ⟨by show n< (c.fr.set n (some u')).length;rw [List.length_set];exact e,aH _ _ _ _ e,?_,?_,?_,?_,?_,m,?_,z,C⟩
 ·rw [k1];exact k.file
 ·rw [k2];have :=k.page;omega
 ·show bK (c.fl.getD u'.file bC).E;rw [k1];exact f.E
 ·show Sup (c.fl.getD u'.file bC).E;rw [k1];exact f.sup
 ·show 0< ((c.fl.getD u'.file bC).E u'.page).1;rw [k1,k2,k.val];omega
 ·rw [k3];show u.ten<c.ls.length;rw [h.nl];exact k.ten
def rdL(c:Dc)(f off n:Nat):Nat->Dc×ByteArray
 |0=>(c,⟨#[]⟩)
 |k+1=>match iR c f (off/16+k) with
  |some (m,u)=>((rdL c f off n k).1.acc m u.ten,(rdL c f off n k).2++u.p.b.extract (bR (off/16+k) off n).1 ((bR (off/16+k) off n).1+(bR (off/16+k) off n).2))
  |none=>rdL c f off n k
theorem aY3 {c:Dc} (h:Ok c)(f off n:Nat):∀k,Ok (rdL c f off n k).1/\(rdL c f off n k).1.fr=c.fr/\(rdL c f off n k).2.size<=16*k
 |0=>⟨h,rfl,zH 0⟩
 |k+1=>by
  obtain⟨e,h2,j⟩:=aY3 h f off n k;rw [rdL];split
  ·refine⟨e.acc _ _,h2,?_⟩;rw [ByteArray.size_append,ByteArray.size_extract];unfold bR;dsimp only;omega
  ·exact⟨e,h2,by omega⟩
def fV(c:Dc)(f off n:Nat):Nat:=min n ((c.fl.getD f bC).size-off)
def aN4(c:Dc)(f off n:Nat):V:=match iW c f off (fV c f off n) false (cnt off (fV c f off n)) with
 |none=>.tup [.agg c.c,.str ⟨#[]⟩,.int .i64 4]
 |some []=>.tup [.agg (rdL c f off (fV c f off n) (cnt off (fV c f off n))).1.c,.str (rdL c f off (fV c f off n) (cnt off (fV c f off n))).2,.int .i64 0]
 |some (_::_)=>.tup [.agg c.c,.str ⟨#[]⟩,.int .i64 7]
theorem Df.cells {f:Df} (j:bK f.E):∃k0 k1 k2 k3,f.c=[.int .i64 f.dev,.int .i64 f.slot,.int .i64 (hgt f.E:Int),.lst k0 k1 k2,.int .i64 k3,.int .i64 (nS f.E 0 (4^hgt f.E):Nat),.int .i64 (f.size:Int),.int .i64 (f.blocks:Int),.int .i64 f.ec,.int .i64 f.ee,.int .i64 0,.int .i64 0,.int .i64 0,.int .i64 0,.int .i64 0]/\can f.E=[.int .i64 (hgt f.E:Int),.lst k0 k1 k2,.int .i64 k3,.int .i64 (nS f.E 0 (4^hgt f.E):Nat)]:=by obtain⟨k0,k1,k2,k3,e⟩:=cB j;exact⟨k0,k1,k2,k3,by unfold Df.c;rw [e];rfl,e⟩
theorem bPM(c:Dc)(h:Ok c)(f off n:Nat)(z:f<c.fl.length)(Q:off+n<=128):aN Tryz.prog 32 [] [.agg c.c,.int .i64 (f:Int),.int .i64 (off:Int),.int .i64 (n:Int)] (aN4 c f off n) []:=by
 have K:=aCQ c f z;have B:=aFY (off:Int) (n:Int);rw [aES Q] at B;have G:=aGI z;have hs:=(h.file f z).size;obtain⟨k0,k1,k2,k3,F,-⟩:=Df.cells (h.file f z).E;rw [F] at G;have ab:max (min (n:Int) (((c.fl.getD f bC).size:Int)- (off:Int))) 0=((fV c f off n:Nat):Int):=by unfold fV;omega
 have Y:fV c f off n<=n:=by unfold fV;omega
 have C:=bNM c h f off (fV c f off n) z (by omega) false;generalize j:aN4 c f off n=q;unfold aN4 at j;have R:=sH (off:=off) (n:=fV c f off n) (by omega)
 cases D:iW c f off (fV c f off n) false (cnt off (fV c f off n)) with
 |none=> rw [D] at j C;subst j;refine aQ (ob0:= []) [] Tryz.func32 rfl rfl rfl rfl ?_;exact Wz
 |some L=>
  rw [D] at j C
  cases L with
  |cons x L=> dsimp only at j;subst j;have hz:=aAW D;refine aQ (ob0:= []) [] Tryz.func32 rfl rfl rfl rfl ?_;exact Wz
  |nil=>
   dsimp only at j;have ae:=aMS off (fV c f off n) (by omega);generalize fV c f off n=e at *;refine aQ (ob0:= []) [] Tryz.func32 rfl rfl rfl rfl ?_;refine Wx ?_;refine Lp (λi:Nat=>i<=cnt off e) (λi=> [(16,.int .i64 (i:Int)),(14,.str (rdL c f off e i).2)]) (λi=> [(2,.box (rdL c f off e i).1.c)]) (λi=>cnt off e-i) 0 (zG _) ?_ ?_
   ·exact Vr [_,_,_]
   intro i hi;refine Wx ?_;refine mD (λb=>?_) (λb=>?_)
   ·have b:i<cnt off e:=by omega
    have hg:=aAM (off/16) (cnt off e) i b;have M:=aFZ (show off+e<=128 by omega) b;obtain⟨m,u,H⟩:=aC8 D i b;have ad:=h.f33s z H;obtain⟨q1,q2,q3,q4,q5⟩:=fM h z H;have hu:=h.use m u q1 q2;have W:=aGJ q1 q2;have Z:=h.nr;have ac:=hu.pg.size;have aa:=oJ b;obtain⟨o1,O,o3⟩:=aY3 h f off e i;have N:=o1.a127 (n:=m) (u:=u) (by rw [O];exact q1) (by rw [O];exact q2)
    have J:rdL c f off e (i+1)=((rdL c f off e i).1.acc m u.ten,(rdL c f off e i).2++u.p.b.extract (bR (off/16+i) off e).1 ((bR (off/16+i) off e).1+(bR (off/16+i) off e).2)):=by rw [rdL,H]
    have T:(u.p.b.extract (bR (off/16+i) off e).1 ((bR (off/16+i) off e).1+(bR (off/16+i) off e).2)).size<=16:=by rw [ByteArray.size_extract];omega
    generalize rdL c f off e i=d at *;refine Wx ?_;refine Le (i+1) (hv:=?_);simp only [J];exact Vr [_,_,_]
   obtain rfl:i=cnt off e:=by omega
   subst j;exact Wz
def aD1(f:Df)(e:Int):Option (Nat×Nat):=bif decide (e<=(f.size:Int)) then none else bif f.size%16==0 then none else bif uX f.blocks (f.size/16) then none else some (f.size/16,bif decide (f.size%16<8) then 3 else 2)
def aNH:Option (Nat×Nat)->V
 |none=>.tup [.int .i64 (-1),.int .i64 0]
 |some (p,s)=>.tup [.int .i64 (p:Int),.int .i64 (s:Int)]
theorem aGT {f:Df} {e:Int} {p s:Nat} (h:aD1 f e=some (p,s))(z:f.size<=128):p<8/\p=f.size/16/\s<4/\(f.size:Int)<e/\f.size%16≠0/\uX f.blocks p=false:=by
 unfold aD1 at h
 by_cases m:e<=(f.size:Int)
 ·rw [zdt m] at h;cases h
 rw [zdf m,zcf] at h
 by_cases h2:f.size%16=0
 ·rw [zbe.2 h2] at h;cases h
 rw [zbn.2 h2,zcf] at h
 cases j:uX f.blocks (f.size/16) with
 |true=>rw [j] at h;cases h
 |false=> rw [j,zcf] at h;simp only [zse,Prod.mk.injEq] at h;obtain⟨rfl,rfl⟩:=h;refine⟨by omega,rfl,?_,by omega,h2,j⟩;cases decide (f.size%16<8)<;> decide
theorem bPO(c:Dc)(h:Ok c)(f:Nat)(e:Int)(G:f<c.fl.length):aN Tryz.prog 61 [] [.agg c.c,.int .i64 (f:Int),.int .i64 e] (aNH (aD1 (c.fl.getD f bC) e)) []:=by
 have R:=aCQ c f G;have H:=aGI G;have D:=h.file f G;have Z:=D.size;have j:=λY=>bE8 (c.fl.getD f bC) D.E ((c.fl.getD f bC).size/16) Y D.blocks;obtain⟨k0,k1,k2,k3,z,-⟩:=Df.cells D.E;rw [z] at H;simp only [z] at j;generalize m:aD1 (c.fl.getD f bC) e=q;unfold aD1 at m;generalize c.fl.getD f bC=x at *
 by_cases C:e<=(x.size:Int)
 ·rw [zdt C] at m;subst m;dsimp only [aNH];refine aQ (ob0:= []) [] Tryz.func61 rfl rfl rfl rfl ?_;exact Wz
 rw [zdf C,zcf] at m
 by_cases h2:x.size%16=0
 ·rw [zbe.2 h2] at m;subst m;dsimp only [aNH];refine aQ (ob0:= []) [] Tryz.func61 rfl rfl rfl rfl ?_;exact Wz
 rw [zbn.2 h2,zcf] at m;have j:=j (by omega)
 cases F:uX x.blocks (x.size/16) with
 |true=> rw [F] at m j;subst m;dsimp only [aNH];refine aQ (ob0:= []) [] Tryz.func61 rfl rfl rfl rfl ?_;exact Wz
 |false=>
  rw [F,zcf] at m;rw [F] at j;subst m;dsimp only [aNH];refine aQ (ob0:= []) [] Tryz.func61 rfl rfl rfl rfl ?_
  have O:∀a i:Nat,a<=i->i<2->(2^i-2^a)||| 2^i=2^(i+1)-2^a:=by
   intro a i C h2;have N:∀a i:Fin 2,a.val<=i.val->(2^i.val-2^a.val)||| 2^i.val=2^(i.val+1)-2^a.val:=by decide
   exact N ⟨a,by omega⟩ ⟨i,h2⟩ C
  have M:∀i:Nat,i<=2->2^i<=4:=λi J=>Nat.pow_le_pow_right (n:=2) (by omega) (show i<=2 from J);have T:x.size%16/8<=1:=by omega
  refine Wx ?_;refine Lp (λi:Nat=>x.size%16/8<=i/\i<=2) (λi=> [(9,.int .i64 (i:Int)),(8,.int .i64 ((2^i-2^(x.size%16/8):Nat):Int))]) (λi=> []) (λi=>2-i) (x.size%16/8) ⟨zH _,by omega⟩ ?_ ?_
  ·simp only [Nat.sub_self];exact Vr [_]
  rintro i ⟨K,J⟩;have W:=M i J
  have B:2^2-2^(x.size%16/8)=(bif decide (x.size%16<8) then 3 else 2:Nat):=by
   by_cases Q:x.size%16<8
   ·rw [zdt Q,show x.size%16/8=0 by omega];rfl
   ·rw [zdf Q,show x.size%16/8=1 by omega];rfl
  have e:=O _ i K;generalize 2^(x.size%16/8)=A at *;refine Wx ?_;refine mD (λb=>?_) (λb=>?_)
  ·have b:i<2:=by omega
   have e:=e b;refine Wx ?_;refine Le (i+1) (hv:=?_);simp only [<-e];exact Vr [_]
  obtain rfl:i=2:=by omega
  rw [<-B];exact Wz
def tO(u:Us)(p:Pg):Us:=⟨u.file,u.page,p,u.ten,u.holds,u.rd,u.wr⟩
def eJ(c:Dc)(f:Nat)(e:Int):Dc×Int:=match aD1 (c.fl.getD f bC) e with
 |none=>(c,0)
 |some (p,s)=>match iR c f p with
  |none=>(c,4)
  |some (m,u)=>bif sF false s u.p.v==0 then(c.put m (tO u (aGS u.p s)),0) else(c,7)
theorem bE9(c:Dc)(h:Ok c)(f:Nat)(e:Int)(z:f<c.fl.length):aN Tryz.prog 123 [] [.agg c.c,.int .i64 (f:Int),.int .i64 e] (.tup [.agg (eJ c f e).1.c,.int .i64 (eJ c f e).2]) []:=by
 have D:=bPO c h f e z;generalize j:eJ c f e=q;unfold eJ at j;have N:=(h.file f z).size
 cases E:aD1 (c.fl.getD f bC) e with
 |none=> rw [E] at j D;subst j;refine aQ (ob0:= []) [] Tryz.func123 rfl rfl rfl rfl ?_;exact Wz
 |some x=>
  obtain⟨p,s⟩:=x;rw [E] at j D;dsimp only at j;obtain⟨Y,Z,J,t4,t5⟩:=aGT E N
  cases B:iR c f p with
  |none=> have F:=h.f33n z B;rw [B] at j;subst j;refine aQ (ob0:= []) [] Tryz.func123 rfl rfl rfl rfl ?_;exact Wz
  |some x=>
   obtain⟨m,u⟩:=x;have F:=h.f33s z B;obtain⟨q1,q2,R,T,W⟩:=fM h z B;have C:=h.use m u q1 q2;have K:=aGJ q1 q2;have M:=h.nr;have Q:=C.pg.v;have O:=mJ (x:=s) (y:=u.p.v) (by omega) (by omega);have H:=bLX u.p C.pg s J;have G:=h.p155 (u':=tO u (aGS u.p s)) q1 q2 rfl (aAU C.pg J) C.rd C.wr;rw [B] at j;dsimp only at j;generalize sF false s u.p.v=y at *;refine aQ (ob0:= []) [] Tryz.func123 rfl rfl rfl rfl ?_;refine Wx ?_;refine bA9 (λd=>?_) (λd=>?_)
   ·rw [show(y==0)=false from zbn.2 (by omega)] at j;subst j;exact Wz
   ·rw [show(y==0)=true from zbe.2 (by omega)] at j;subst j;exact Wz
end Go.Proofs.YtmhapcbjjpadnaaGreat
