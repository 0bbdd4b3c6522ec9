/- Caches. -/
import Derived.Test.YtmhapcbjjpadnaaGreatGEb
set_option linter.all false
set_option maxHeartbeats 2000000
set_option maxRecDepth 40000
open Bool renaming and_false→zH
open List renaming getElem?_eq_none→zA,getD_eq_getElem?_getD→zC,ext_getElem?→zE,length_map→zF,getElem?_set→zI,length_take→zK
open Nat renaming zero_le→zD,min_eq_left→zG,le_of_lt→zJ,le_refl→zL
namespace Go.Proofs.YtmhapcbjjpadnaaGreat
open Go Go.Sk Go.RowKit
def rA(b s:List UInt8)(f:Nat->Bool)(i:Nat):List UInt8:=(List.range b.length).map λj=>bif decide (j<i)&&f (j/8) then s.getD j 0 else b.getD j 0
theorem iW(b s:List UInt8)(f:Nat->Bool)(i:Nat):(rA b s f i).length=b.length:=by simp [rA]
theorem pL(b s:List UInt8)(f:Nat->Bool)(i j:Nat)(h:j<b.length):(rA b s f i)[j]? =some (bif decide (j<i)&&f (j/8) then s.getD j 0 else b.getD j 0):=by
 simp [rA,h]
theorem aNM(b s:List UInt8)(f:Nat->Bool):rA b s f 0=b:=by
 apply zE
 intro j
 by_cases h:j<b.length
 ·rw [pL _ _ _ _ _ h];simp [h]
 ·rw [zA (by rw [iW];omega),zA (by omega)]
theorem aRR(b s:List UInt8)(f:Nat->Bool)(i:Nat)(h:f (i/8)=true):rA b s f (i+1)=(rA b s f i).set i (s.getD i 0):=by
 apply zE
 intro j
 by_cases hj:j<b.length
 ·rw [pL _ _ _ _ _ hj,zI]
  by_cases e:i=j
  ·subst e
   rw [if_pos rfl,if_pos (by rw [iW];exact hj),h,decide_eq_true (by omega)];rfl
  ·rw [if_neg e,pL _ _ _ _ _ hj,show decide (j<i+1)=decide (j<i) by rw [decide_eq_decide];omega]
 ·rw [zA (by rw [iW];omega),zA (by rw [List.length_set,iW];omega)]
theorem aNL(b s:List UInt8)(f:Nat->Bool)(i:Nat)(h:f (i/8)=false):rA b s f (i+1)=rA b s f i:=by
 apply zE
 intro j
 by_cases hj:j<b.length
 ·rw [pL _ _ _ _ _ hj,pL _ _ _ _ _ hj]
  by_cases e:i=j
  ·subst e
   rw [h,zH,zH]
  ·rw [show decide (j<i+1)=decide (j<i) by rw [decide_eq_decide];omega]
 ·rw [zA (by rw [iW];omega),zA (by rw [iW];omega)]
def aRC(s v q:Nat):Bool:=bif (((s &&& 2^q:Nat):Int) != 0) then(((v &&& 2^q:Nat):Int)==0) else false
def aK4(p:Pg)(s:Nat)(d:ByteArray):Pg:=⟨⟨(rA p.b.data.toList d.data.toList (aRC s p.v) 16).toArray⟩,p.v ||| s,p.d⟩
theorem bHN(p:Pg)(h:dI p)(s:Nat)(hs:s<4)(d:ByteArray)(hd:d.size=16):aM Tryz.prog 159 [] [.agg p.c,.int .i64 (s:Int),.str d] (.tup [.agg (aK4 p s d).c,.int .i64 0]) []:=by
 have k260:=aPD p h
 have hp:=h.size
 have hv:=h.v
 have hd4:=h.d
 simp only [aK4,Pg.c]
 refine aK (ob0:= []) [] Tryz.func159 rfl rfl rfl rfl ?_
 refine Wx ?_
 refine Lp (λi:Nat=>i<=16) (λi=> [(9,.int .i64 (i:Int))]) (λi=> [(2,.bb (rA p.b.data.toList d.data.toList (aRC s p.v) i))]) (λi=>16-i) 0 (zD _) ?_ ?_
 ·rw [aNM]
  exact Vr [_,_,_]
 intro i hi
 have h2:2^(i/8)<16:=Nat.pow_lt_pow_right (m:=i/8) (n:=4) (by omega) (by omega)
 have hl:=iW p.b.data.toList d.data.toList (aRC s p.v) i
 rw [show p.b.data.toList.length=16 from hp] at hl
 refine Wx ?_
 refine fP (λb=>?_) (λb=>?_)
 ·refine Wx ?_
  refine aC (λc=>?_) (λc=>?_)
  ·have c:aRC s p.v (i/8)=true:=c
   refine Wx ?_
   refine Le (i+1) (hv:=?_)
   simp only [aRR _ _ _ _ c]
   exact Vr [_,_,_]
  ·have c:aRC s p.v (i/8)=false:=c
   refine Wx ?_
   refine Le (i+1) (hv:=?_)
   simp only [aNL _ _ _ _ c]
   exact Vr [_,_,_]
 obtain rfl:i=16:=by omega
 exact Wz
end Go.Proofs.YtmhapcbjjpadnaaGreat
namespace Go.Proofs.YtmhapcbjjpadnaaGreat
open Go Go.Sk Go.RowKit
def gE(off n:Int):Bool:=decide (0<=off/\0<=n/\off<=128/\n<=128-off)
theorem pJ(off n:Int):aM Tryz.prog 125 [] [.int .i64 off,.int .i64 n] (.bool (gE off n)) []:=by
 have key:(bif bif bif decide (0<=off) then decide (0<=n) else false then decide (off<=128) else false then decide (n<=IntKind.i64.wrap (128-off)) else false)=gE off n:=by
  unfold gE
  by_cases a1:0<=off
  ·by_cases a2:0<=n
   ·by_cases a3:off<=128
    ·rw [aR (n:=128-off) (by omega) (by omega)];simp [a1,a2,a3]
    ·simp [a1,a2,a3]
   ·simp [a1,a2]
  ·simp [a1]
 refine aF (ob0:= []) [] Tryz.func125 rfl rfl rfl rfl ?_
 refine Wk ?_
 rw [key]
 try subst hk
 exact Lf
theorem qZ(off n:Int):aM Tryz.prog 161 [] [.int .i64 off,.int .i64 n] (.bool (gE off n)) []:=by
 have key:(bif bif bif decide (0<=off) then decide (0<=n) else false then decide (off<=128) else false then decide (n<=IntKind.i64.wrap (128-off)) else false)=gE off n:=by
  unfold gE
  by_cases a1:0<=off
  ·by_cases a2:0<=n
   ·by_cases a3:off<=128
    ·rw [aR (n:=128-off) (by omega) (by omega)];simp [a1,a2,a3]
    ·simp [a1,a2,a3]
   ·simp [a1,a2]
  ·simp [a1]
 refine aF (ob0:= []) [] Tryz.func161 rfl rfl rfl rfl ?_
 refine Wk ?_
 rw [key]
 try subst hk
 exact Lf
theorem iN {off n:Nat} (h:off+n<=128):gE (off:Int) (n:Int)=true:=decide_eq_true ⟨by omega,by omega,by omega,by omega⟩
theorem aHD {off n:Int} (h:gE off n=true):∃a b:Nat,off=a/\n=b/\a+b<=128:=by
 have :=of_decide_eq_true h
 exact⟨off.toNat,n.toNat,by omega,by omega,by omega⟩
def oC(off n:Nat):Nat:=(off+n+15)/16-off/16
def pgR(a k:Nat):List (List V):=aE ((List.range' a k).map λx:Nat=>(x:Int))
@[simp] theorem bL9 (a k:Nat):(pgR a k).length=k:=by simp [pgR]
theorem aES(a k:Nat):pgR a (k+1)=pgR a k++ [[.int .i64 ((a+k:Nat):Int)]]:=by simp [pgR,aE,List.range'_concat]
theorem bCC(off n:Int)(h:n<1\/gE off n=false):aM Tryz.prog 66 [] [.int .i64 off,.int .i64 n] (.lst 0 true []) []:=by
 have k125:=pJ off n
 refine aK (ob0:= []) [] Tryz.func66 rfl rfl rfl rfl ?_
 by_cases h1:n<1
 ·exact Wz
 ·rw [h.resolve_left h1] at k125
  exact Wz
theorem bMN(off n:Nat)(h:1<=n)(h2:off+n<=128):aM Tryz.prog 66 [] [.int .i64 (off:Int),.int .i64 (n:Int)] (.lst 1 false (pgR (off/16) (oC off n))) []:=by
 have k125:=pJ (off:Int) (n:Int)
 rw [iN h2] at k125
 refine aK (ob0:= []) [] Tryz.func66 rfl rfl rfl rfl ?_
 have e:oC off n=(off+n+15)/16-off/16:=rfl
 refine Wx ?_
 refine Lp (λi:Nat=>i<=oC off n) (λi=> [(6,.int .i64 ((off/16+i:Nat):Int)),(5,.sl 0 0 i)]) (λi=> [(0,.row 1 (pgR (off/16) i))]) (λi=>oC off n-i) 0 (zD _) ?_ ?_
 ·exact Vr [none]
 intro i hi
 refine Wx ?_
 refine fP (λb=>?_) (λb=>?_)
 ·refine Wx ?_
  refine Le (i+1) (hv:=?_)
  simp only [aES]
  exact Vr [_]
 obtain rfl:i=oC off n:=by omega
 exact Wz
theorem bHS(n:Nat)(h:n<=1000000):aM Tryz.prog 173 [] [.int .i64 (n:Int)] (.int .i64 (((n+15)/16:Nat):Int)) []:=by
 refine aK (ob0:= []) [] Tryz.func173 rfl rfl rfl rfl ?_
 exact Wz
theorem aVG(off n:Int)(h:n<1\/gE off n=false):aM Tryz.prog 65 [] [.int .i64 off,.int .i64 n] (.lst 0 true []) []:=by
 have k161:=qZ off n
 refine aK (ob0:= []) [] Tryz.func65 rfl rfl rfl rfl ?_
 by_cases h1:n<1
 ·exact Wz
 ·rw [h.resolve_left h1] at k161
  exact Wz
theorem bMM(off n:Nat)(h:1<=n)(h2:off+n<=128):aM Tryz.prog 65 [] [.int .i64 (off:Int),.int .i64 (n:Int)] (.lst 1 false (pgR (off/16) (oC off n))) []:=by
 have k161:=qZ (off:Int) (n:Int)
 rw [iN h2] at k161
 have k173:=bHS (off+n) (by omega)
 refine aK (ob0:= []) [] Tryz.func65 rfl rfl rfl rfl ?_
 have e:oC off n=(off+n+15)/16-off/16:=rfl
 refine Wx ?_
 refine Lp (λi:Nat=>i<=oC off n) (λi=> [(6,.int .i64 ((off/16+i:Nat):Int)),(5,.sl 0 0 i)]) (λi=> [(0,.row 1 (pgR (off/16) i))]) (λi=>oC off n-i) 0 (zD _) ?_ ?_
 ·exact Vr [none]
 intro i hi
 refine Wx ?_
 refine fP (λb=>?_) (λb=>?_)
 ·refine Wx ?_
  refine Le (i+1) (hv:=?_)
  simp only [aES]
  exact Vr [_]
 obtain rfl:i=oC off n:=by omega
 exact Wz
def aO(p off n:Nat):Nat×Nat:=(max off (p*16)-p*16,min (off+n) ((p+1)*16)-max off (p*16))
theorem bHF(p off n:Nat)(hp:p<=8)(h:off+n<=128)(h1:off<=(p+1)*16)(h2:p*16<=off+n):aM Tryz.prog 126 [] [.int .i64 (p:Int),.int .i64 (off:Int),.int .i64 (n:Int)] (.tup [.int .i64 ((aO p off n).1:Int),.int .i64 ((aO p off n).2:Int)]) []:=by
 unfold aO
 refine aK (ob0:= []) [] Tryz.func126 rfl rfl rfl rfl ?_
 exact Wz
end Go.Proofs.YtmhapcbjjpadnaaGreat
namespace Go.Proofs.YtmhapcbjjpadnaaGreat
open Go Go.Sk Go.RowKit
def oI {α:Type} (g:α->α)(l:List α)(i:Nat):List α:=(l.take i).map g++l.drop i
@[simp] theorem vN {α:Type} (g:α->α) (l:List α) (i:Nat):(oI g l i).length=l.length:=by simp only [oI,List.length_append,zF,zK,List.length_drop];omega
theorem aGD {α:Type} (g:α->α)(l:List α):oI g l 0=l:=by simp [oI]
theorem aKO {α:Type} (g:α->α)(l:List α):oI g l l.length=l.map g:=by simp [oI]
theorem aEB {α:Type} (g:α->α)(l:List α)(i:Nat)(d:α)(h:i<l.length):(oI g l i).getD i d=l.getD i d:=by
 simp [oI,zC,List.getElem?_append,zG (zJ h)]
theorem aAX {α:Type} (g:α->α)(l:List α)(i:Nat)(d:α)(h:i<l.length):oI g l (i+1)=(oI g l i).set i (g (l.getD i d)):=by
 unfold oI
 rw [aCD d h,List.map_append,List.set_append,if_neg (by simp [zG (zJ h)]),List.drop_eq_getElem_cons h,zF,zK,zG (zJ h),Nat.sub_self,List.set_cons_zero]
 simp [zC,h]
theorem aRH {α:Type} (g:α->α)(l:List α)(i:Nat)(d:α)(h:i<l.length)(e:g (l.getD i d)=l.getD i d):oI g l (i+1)=oI g l i:=by
 rw [aAX g l i d h,e,<-aEB g l i d h]
 apply zE
 intro j
 rw [zI]
 split
 ·rename_i e;subst e
  rw [if_pos (by rw [vN];exact h)]
  have hi:i< (oI g l i).length:=by rw [vN];exact h
  rw [zC,List.getElem?_eq_getElem hi];rfl
 ·rfl
def aCP(f:Int)(p:Pt):Pt:=bif p.frame==f then⟨p.proc,p.page,p.frame,false,p.acc⟩ else p
def bPJ(f:Int)(p:Pt):Pt:=bif p.frame==f then⟨p.proc,p.page,p.frame,p.wr,false⟩ else p
theorem bIH(l:List Pt)(f:Int)(hc:kQ l=true)(hl:l.length<=100000):aM Tryz.prog 279 [] [.lst 5 false (aY l),.int .i64 f] (.lst 5 false (aY (l.map (aCP f)))) []:=by
 have k202:=aUV l false hl
 rw [hc] at k202
 refine aK (ob0:= []) [] Tryz.func279 rfl rfl rfl rfl ?_
 refine Wx ?_
 refine Lp (λi:Nat=>i<=l.length) (λi=> [(6,.int .i64 (i:Int))]) (λi=> [(0,.row 5 (aY (oI (aCP f) l i)))]) (λi=>l.length-i) 0 (zD _) ?_ ?_
 ·rw [aGD];exact Vr [_]
 intro i hi
 refine Wx ?_
 refine fP (λb=>?_) (λb=>?_)
 ·have b:i<l.length:=by omega
  have hg:=iX (oI (aCP f) l i) i (by rw [vN];exact b)
  rw [aEB _ _ _ _ b] at hg
  have hs:=aAX (aCP f) l i p0 b
  have hm:=aRH (aCP f) l i p0 b
  have hp:aCP f (l.getD i p0)=bif (l.getD i p0).frame==f then⟨(l.getD i p0).proc,(l.getD i p0).page,(l.getD i p0).frame,false,(l.getD i p0).acc⟩ else l.getD i p0:=rfl
  generalize l.getD i p0=x at *
  refine Wx ?_
  refine aC (λc=>?_) (λc=>?_)
  ·rw [c,cond_true] at hp
   refine Wx ?_
   refine Le (i+1) (hv:=?_)
   simp only [hs,hp,<-aGV]
   exact Vr [_]
  ·rw [c,cond_false] at hp
   refine Wx ?_
   refine Le (i+1) (hv:=?_)
   simp only [hm hp]
   exact Vr [_]
 obtain rfl:i=l.length:=by omega
 rw [aKO]
 exact Wz
theorem bIX(a b:Int):aM Tryz.prog 331 [] [.agg [.int .i64 a,.int .i64 b]] (.bool (bif (bif decide (0<=a) then decide (a<=1000000) else false) then(a==0)==(b==0) else false)) []:=by
 refine aK (ob0:= []) [] Tryz.func331 rfl rfl rfl rfl ?_
 exact Wz
def aB9(a b e:Int):Int×Int:=bif a==1000000 then(a,b) else(a+1,e)
theorem bIE(a b e:Int)(h0:0<=a)(h1:a<=1000000)(h2:a=0↔b=0)(he:e≠0):aM Tryz.prog 275 [] [.agg [.int .i64 a,.int .i64 b],.int .i64 e] (.tup [.agg [.int .i64 (aB9 a b e).1,.int .i64 (aB9 a b e).2],.int .i64 (bif a==1000000 then 3 else 0)]) []:=by
 have k:=bIX a b
 have e1:(bif (bif decide (0<=a) then decide (a<=1000000) else false) then(a==0)==(b==0) else false)=true:=by
  rw [decide_eq_true h0,decide_eq_true h1]
  by_cases x:a=0
  ·simp [x,h2.1 x]
  ·have :b≠0:=λy=>x (h2.2 y)
   rw [beq_eq_false_iff_ne.2 x,beq_eq_false_iff_ne.2 this];rfl
 rw [e1] at k
 unfold aB9
 refine aK (ob0:= []) [] Tryz.func275 rfl rfl rfl rfl ?_
 refine Wx ?_
 refine bD2 (λb=>?_) (λb=>?_)
 ·subst b
  exact Wz
 ·rw [beq_eq_false_iff_ne.2 b]
  exact Wz
theorem bJ7(s:Nat)(h:s<7):aM Tryz.prog 356 [] [.int .i64 (s:Int)] (.bool true) []:=by
 match s,h with
 |0,_=>exact run_eq E1 40 (by kernel_rfl)
 |1,_=>exact run_eq E1 40 (by kernel_rfl)
 |2,_=>exact run_eq E1 40 (by kernel_rfl)
 |3,_=>exact run_eq E1 40 (by kernel_rfl)
 |4,_=>exact run_eq E1 40 (by kernel_rfl)
 |5,_=>exact run_eq E1 40 (by kernel_rfl)
 |6,_=>exact run_eq E1 40 (by kernel_rfl)
 |n+7,h=>exact absurd h (by omega)
theorem bIY(s p:Nat)(h:s<7)(hp:p<8):aM Tryz.prog 332 [] [.int .i64 (s:Int),.int .i64 (p:Int)] (.int .i64 ((s*18+2+p*2:Nat):Int)) []:=by
 have k:=bJ7 s h
 refine aK (ob0:= []) [] Tryz.func332 rfl rfl rfl rfl ?_
 exact Wz
end Go.Proofs.YtmhapcbjjpadnaaGreat
namespace Go.Proofs.YtmhapcbjjpadnaaGreat
open Go Go.Sk Go.RowKit
def iD(l:List Pt)(e:Pt):Nat->List Pt×Bool
 |0=>([],false)
 |i+1=>(bif (eB (l.getD i p0) e||eB e (l.getD i p0)) then(bif !(iD l e i).2&& !eB (l.getD i p0) e then(iD l e i).1++ [e] else(iD l e i).1)++ [l.getD i p0]
   else(bif !(iD l e i).2&& !eB (l.getD i p0) e then(iD l e i).1++ [e] else(iD l e i).1),(iD l e i).2|| !eB (l.getD i p0) e)
theorem aFX(l:List Pt)(e:Pt)(i:Nat):iD l e (i+1)=(bif (eB (l.getD i p0) e||eB e (l.getD i p0)) then(bif !(iD l e i).2&& !eB (l.getD i p0) e then(iD l e i).1++ [e] else(iD l e i).1)++ [l.getD i p0]
 else(bif !(iD l e i).2&& !eB (l.getD i p0) e then(iD l e i).1++ [e] else(iD l e i).1),(iD l e i).2|| !eB (l.getD i p0) e):=rfl
def aMZ(l:List Pt)(e:Pt):List Pt:=bif (iD l e l.length).2 then(iD l e l.length).1 else(iD l e l.length).1++ [e]
theorem aTH(l:List Pt)(e:Pt)(i:Nat):(iD l e i).1.length<=2*i:=by
 induction i with
 |zero=>simp [iD]
 |succ i ih=>
  unfold iD
  dsimp only
  cases(eB (l.getD i p0) e||eB e (l.getD i p0))<;> cases(!(iD l e i).2&& !eB (l.getD i p0) e)<;> simp <;> omega
theorem aGU(a:List Pt)(x:Pt):aY (a++ [x])=aY a++ [x.c]:=by simp [aY]
theorem bHT(l:List Pt)(e:Pt)(hc:kQ l=true)(hl:l.length<=10000)(he:eC e=true):aM Tryz.prog 175 [] [.lst 5 false (aY l),.agg e.c] (.tup [.lst 5 false (aY (aMZ l e)),.int .i64 0]) []:=by
 have k202:=aUV l false (by omega)
 have k273:=bBT e
 rw [hc] at k202
 rw [he] at k273
 refine aK (ob0:= []) [] Tryz.func175 rfl rfl rfl rfl ?_
 refine Wx ?_
 refine Lp (λi:Nat=>i<=l.length) (λi=> [(8,.int .i64 (i:Int)),(7,.bool (iD l e i).2),(6,.sl 1 0 (iD l e i).1.length)]) (λi=> [(1,.row 5 (aY (iD l e i).1))]) (λi=>l.length-i) 0 (zD _) ?_ ?_
 ·exact Vr [_,none]
 intro i hi
 have hz:=aTH l e i
 refine Wx ?_
 refine fP (λb=>?_) (λb=>?_)
 ·have b:i<l.length:=by omega
  have hg:=iX l i b
  have k1:=aV9 (l.getD i p0) e
  have k2:=aV9 e (l.getD i p0)
  have hs:=aFX l e i
  generalize l.getD i p0=x at *
  generalize eB x e=u at *
  generalize eB e x=v at *
  generalize iD l e i=q at *
  obtain⟨o,pl⟩:=q
  dsimp only at hz hs⊢
  cases pl <;> cases u <;> cases v
  all_goals
   simp only [Bool.or_true,Bool.or_false,Bool.or_self,Bool.and_true,zH,Bool.and_self,Bool.not_true,Bool.not_false,Bool.true_or,Bool.false_or,cond_true,cond_false] at hs
   refine Wx ?_
   refine Le (i+1) (hv:=?_)
   simp only [hs,aGU]
   exact Vr [_,_]
 obtain rfl:i=l.length:=by omega
 unfold aMZ
 generalize iD l e l.length=q at *
 obtain⟨o,pl⟩:=q
 dsimp only at hz⊢
 cases pl
 ·simp only [cond_false,aGU]
  exact Wz
 ·exact Wz
end Go.Proofs.YtmhapcbjjpadnaaGreat
namespace Go.Proofs.YtmhapcbjjpadnaaGreat
open Go Go.Sk Go.RowKit
def eA(c:Dc)(f p:Nat):Option (Nat×Us):=bif decide (0< ((c.fl.getD f aP).E p).1) then(c.fr.getD (((c.fl.getD f aP).E p).1-1).toNat none).map λu=>((((c.fl.getD f aP).E p).1-1).toNat,u) else none
theorem bM {c:Dc} (h:Ok c) {f p n:Nat} {u:Us} (hf:f<c.fl.length)(e:eA c f p=some (n,u)):n<c.fr.length/\c.fr.getD n none=some u/\u.file=f/\u.page=p/\((c.fl.getD f aP).E p).1=((n+1:Nat):Int):=by
 unfold eA at e
 cases hd:decide (0< ((c.fl.getD f aP).E p).1) with
 |false=>rw [hd] at e;cases e
 |true=>
  rw [hd,cond_true] at e
  obtain⟨m,w,k1,k2,k3,k4,k5⟩:=h.ent f p hf (of_decide_eq_true hd)
  rw [k2,show(((m+1:Nat):Int)-1).toNat=m by omega,k3] at e
  simp only [Option.map_some,Option.some.injEq,Prod.mk.injEq] at e
  obtain⟨rfl,rfl⟩:=e
  exact⟨k1,k3,k4,k5,k2⟩
theorem vX {c:Dc} (h:Ok c) {f p:Nat} (hf:f<c.fl.length)(e:eA c f p=none):((c.fl.getD f aP).E p).1<=0:=by
 unfold eA at e
 cases hd:decide (0< ((c.fl.getD f aP).E p).1) with
 |false=>have :=of_decide_eq_false hd;omega
 |true=>
  rw [hd,cond_true] at e
  obtain⟨m,w,k1,k2,k3,k4,k5⟩:=h.ent f p hf (of_decide_eq_true hd)
  rw [k2,show(((m+1:Nat):Int)-1).toNat=m by omega,k3] at e
  cases e
theorem aAN(E:cM)(p:Nat):findF E (p:Int)=bif decide ((E p).1<=0) then(0,false) else((E p).1,true):=by
 unfold findF uW
 rw [decide_eq_true (show(0:Int)<=(p:Int) by omega),cond_true,Int.toNat_natCast]
theorem aTK {c:Dc} (h:Ok c) {f p n:Nat} {u:Us} (hf:f<c.fl.length)(e:eA c f p=some (n,u)):findF (c.fl.getD f aP).E (p:Int)=(((n+1:Nat):Int),true):=by
 have :=(bM h hf e).2.2.2.2
 rw [aAN,this,decide_eq_false (by omega)];rfl
theorem aTJ {c:Dc} (h:Ok c) {f p:Nat} (hf:f<c.fl.length)(e:eA c f p=none):findF (c.fl.getD f aP).E (p:Int)=(0,false):=by
 rw [aAN,decide_eq_true (vX h hf e)];rfl
theorem Ok.f33s {c:Dc} (h:Ok c) {f p n:Nat} {u:Us} (hf:f<c.fl.length)(e:eA c f p=some (n,u)):aM Tryz.prog 33 [] [.agg c.c,.int .i64 (f:Int),.int .i64 (p:Int)] (.tup [.int .i64 ((n+1:Nat):Int),.bool true]) []:=by
 have :=bEQ c f (p:Int) h.sm hf (h.file f hf).E (h.file f hf).sup
 rwa [aTK h hf e] at this
theorem Ok.f33n {c:Dc} (h:Ok c) {f p:Nat} (hf:f<c.fl.length)(e:eA c f p=none):aM Tryz.prog 33 [] [.agg c.c,.int .i64 (f:Int),.int .i64 (p:Int)] (.tup [.int .i64 0,.bool false]) []:=by
 have :=bEQ c f (p:Int) h.sm hf (h.file f hf).E (h.file f hf).sup
 rwa [aTJ h hf e] at this
theorem Ok.f138s {c:Dc} (h:Ok c) {f p n:Nat} {u:Us} (hf:f<c.fl.length)(hp:p<16)(e:eA c f p=some (n,u)):aM Tryz.prog 138 [] [.agg c.c,.int .i64 (f:Int),.int .i64 (p:Int)] (.tup [.int .i64 ((n+1:Nat):Int),.bool true]) []:=by
 have :=bAV c f p hp h.sm hf (h.file f hf).E (h.file f hf).sup
 rwa [aTK h hf e] at this
theorem Ok.f138n {c:Dc} (h:Ok c) {f p:Nat} (hf:f<c.fl.length)(hp:p<16)(e:eA c f p=none):aM Tryz.prog 138 [] [.agg c.c,.int .i64 (f:Int),.int .i64 (p:Int)] (.tup [.int .i64 0,.bool false]) []:=by
 have :=bAV c f p hp h.sm hf (h.file f hf).E (h.file f hf).sup
 rwa [aTJ h hf e] at this
def cnt(off n:Nat):Nat:=bif decide (n=0) then 0 else oC off n
theorem fK {off n:Nat} (h:off+n<=128):off/16+cnt off n<=8:=by
 unfold cnt oC
 by_cases e:n=0
 ·rw [decide_eq_true e,cond_true];omega
 ·rw [decide_eq_false e,cond_false];omega
theorem aC2 {off n k:Nat} (h:k<cnt off n):off< (off/16+k+1)*16/\(off/16+k)*16<off+n/\1<=n:=by
 unfold cnt oC at h
 by_cases e:n=0
 ·rw [decide_eq_true e,cond_true] at h;omega
 ·rw [decide_eq_false e,cond_false] at h;omega
theorem tH(a m k:Nat)(h:k<m):(pgR a m).getD k []=[.int .i64 ((a+k:Nat):Int)]:=by
 simp [pgR,aE,zC,h]
theorem aGO(off n:Nat)(h2:off+n<=128):aM Tryz.prog 66 [] [.int .i64 (off:Int),.int .i64 (n:Int)] (.lst 1 false (pgR (off/16) (cnt off n))) []:=by
 by_cases e:n=0
 ·have :=bCC (off:Int) (n:Int) (.inl (by omega))
  unfold cnt
  rw [decide_eq_true e,cond_true]
  exact this.le (kN.refl _) uY.nils (lQ.refl _)
 ·have :=bMN off n (by omega) h2
  unfold cnt
  rw [decide_eq_false e,cond_false]
  exact this
theorem bCB(off n:Nat)(h2:off+n<=128):aM Tryz.prog 65 [] [.int .i64 (off:Int),.int .i64 (n:Int)] (.lst 1 false (pgR (off/16) (cnt off n))) []:=by
 by_cases e:n=0
 ·have :=aVG (off:Int) (n:Int) (.inl (by omega))
  unfold cnt
  rw [decide_eq_true e,cond_true]
  exact this.le (kN.refl _) uY.nils (lQ.refl _)
 ·have :=bMM off n (by omega) h2
  unfold cnt
  rw [decide_eq_false e,cond_false]
  exact this
theorem aEK {off n k:Nat} (h:off+n<=128)(hk:k<cnt off n):aM Tryz.prog 126 [] [.int .i64 ((off/16+k:Nat):Int),.int .i64 (off:Int),.int .i64 (n:Int)] (.tup [.int .i64 ((aO (off/16+k) off n).1:Int),.int .i64 ((aO (off/16+k) off n).2:Int)]) []:=by
 have h1:=fK h
 have h2:=aC2 hk
 exact bHF _ off n (by omega) h (by omega) (by omega)
theorem eY {off n k:Nat} (hk:k<cnt off n):(aO (off/16+k) off n).1+(aO (off/16+k) off n).2<=16/\1<=(aO (off/16+k) off n).2/\(off/16+k)*16+(aO (off/16+k) off n).1+(aO (off/16+k) off n).2<=off+n/\off<=(off/16+k)*16+(aO (off/16+k) off n).1:=by
 have h2:=aC2 hk
 unfold aO
 dsimp only
 generalize off/16+k=p at *
 omega
def fT(u:Us)(off n p:Nat)(w:Bool):Nat:=kX u.p (aO p off n).1 (aO p off n).2 w
def eR(c:Dc)(f off n:Nat)(w:Bool):Nat->Option (List (Nat×Nat))
 |0=>some []
 |k+1=>match eR c f off n w k,eA c f (off/16+k) with
  |some L,some (m,u)=>some (bif fT u off n (off/16+k) w==0 then L else L++ [(m+1,fT u off n (off/16+k) w)])
  |_,_=>none
theorem aH7 {c:Dc} {f off n:Nat} {w:Bool} {k:Nat} (h:eR c f off n w k=none):∀ {j:Nat},k<=j->eR c f off n w j=none:=by
 intro j hj
 induction j with
 |zero=>exact(show k=0 by omega)▸h
 |succ j ih=>
  by_cases e:k=j+1
  ·subst e;exact h
  ·have :=ih (by omega)
   rw [eR,this]
theorem lD {c:Dc} {f off n:Nat} {w:Bool} :∀ {k:Nat} {L:List (Nat×Nat)},eR c f off n w k=some L->L.length<=k
 |0,L,h=>by obtain rfl:=Option.some.inj h;exact zL 0
 |k+1,L,h=>by
  rw [eR] at h
  split at h
  ·rename_i L0 m u h1 h2
   have :=lD h1
   obtain rfl:=Option.some.inj h
   cases(fT u off n (off/16+k) w==0)<;> simp <;> omega
  ·cases h
theorem pS {c:Dc} {f off n:Nat} {w:Bool} :∀ {j:Nat} {L:List (Nat×Nat)},eR c f off n w j=some L->∀k,k<j->∃m u,eA c f (off/16+k)=some (m,u)
 |0,_,_,k,hk=>by omega
 |j+1,L,h,k,hk=>by
  rw [eR] at h
  split at h
  ·rename_i L0 m u h1 h2
   by_cases e:k=j
   ·subst e;exact⟨m,u,h2⟩
   ·exact pS h1 k (by omega)
  ·cases h
def nR(L:List (Nat×Nat)):List (List V):=L.map λp=> [.int .i64 (p.1:Int),.int .i64 (p.2:Int)]
@[simp] theorem bFZ (L:List (Nat×Nat)):(nR L).length=L.length:=zF _
theorem aGT(L:List (Nat×Nat))(a b:Nat):nR (L++ [(a,b)])=nR L++ [[.int .i64 (a:Int),.int .i64 (b:Int)]]:=by simp [nR]
def aLR:Option (List (Nat×Nat))->V
 |none=>.tup [.lst 0 true [],.int .i64 4]
 |some L=>.tup [.lst 2 false (nR L),.int .i64 0]
theorem bE0(c:Dc)(f:Int)(hf:¬(0<=f/\f< (c.fl.length:Int))):aM Tryz.prog 115 [] [.agg c.c,.int .i64 f] (.bool false) []:=by
 have e:(bif decide (0<=f) then decide (f< (c.fl.length:Int)) else false)=false:=by
  by_cases a:0<=f
  ·rw [decide_eq_true a,cond_true];exact decide_eq_false (λb=>hf ⟨a,b⟩)
  ·rw [decide_eq_false a,cond_false]
 rw [<-e]
 refine aK (ob0:= []) [] Tryz.func115 rfl rfl rfl rfl ?_
 exact Wz
theorem bEV(c:Dc)(h:Ok c)(f off n:Nat)(hf:f<c.fl.length)(hb:off+n<=128)(w:Bool):aM Tryz.prog 53 [] [.agg c.c,.int .i64 (f:Int),.int .i64 (off:Int),.int .i64 (n:Int),.bool w] (aLR (eR c f off n w (cnt off n))) []:=by
 have k115:=aBY c f hf
 have k125:=pJ (off:Int) (n:Int)
 have k66:=aGO off n hb
 rw [iN hb] at k125
 have hc:=fK hb
 generalize hq:aLR (eR c f off n w (cnt off n))=q
 refine aK (ob0:= []) [] Tryz.func53 rfl rfl rfl rfl ?_
 refine Wx ?_
 refine Lp (α:=Nat×List (Nat×Nat)) (λa=>a.1<=cnt off n/\eR c f off n w a.1=some a.2) (λa=> [(14,.int .i64 (a.1:Int)),(12,.sl 1 0 a.2.length)]) (λa=> [(1,.row 2 (nR a.2))]) (λa=>cnt off n-a.1) (0,[]) ⟨zD _,rfl⟩ ?_ ?_
 ·exact Vr [_,none]
 rintro ⟨i,L⟩ ⟨hi,hL⟩
 dsimp only at hi hL
 have hz:=lD hL
 refine Wx ?_
 refine fP (λb=>?_) (λb=>?_)
 ·have b:i<cnt off n:=by omega
  have hg:=tH (off/16) (cnt off n) i b
  have k126:=aEK hb b
  cases hp:eA c f (off/16+i) with
  |none=>
   have e:eR c f off n w (i+1)=none:=by rw [eR,hL,hp]
   rw [aH7 e (show i+1<=cnt off n by omega)] at hq
   subst hq
   have k33:=h.f33n hf hp
   exact Wz
  |some x=>
   obtain⟨m,u⟩:=x
   have k33:=h.f33s hf hp
   obtain⟨q1,q2,q3,q4,q5⟩:=bM h hf hp
   have hu:=h.use m u q1 q2
   have k164:=aUN u.p hu.pg _ _ (eY b).1 w
   have hgu:=jB q1 q2
   have hnr:=h.nr
   have e:eR c f off n w (i+1)=some (bif fT u off n (off/16+i) w==0 then L else L++ [(m+1,fT u off n (off/16+i) w)]):=by rw [eR,hL,hp]
   have hw:kX u.p (aO (off/16+i) off n).1 (aO (off/16+i) off n).2 w=fT u off n (off/16+i) w:=rfl
   rw [hw] at k164
   generalize fT u off n (off/16+i) w=s at *
   refine Wx ?_
   refine aT6 (λd=>?_) (λd=>?_)
   ·rw [show(s==0)=false from beq_eq_false_iff_ne.2 (by omega),cond_false] at e
    refine Wx ?_
    refine Le (i+1,L++ [(m+1,s)]) (hI:=⟨b,e⟩) (hv:=?_)
    simp only [aGT]
    exact Vr [_,_]
   ·rw [show(s==0)=true from beq_iff_eq.2 (by omega),cond_true] at e
    refine Wx ?_
    refine Le (i+1,L) (hI:=⟨b,e⟩) (hv:=?_)
    exact Vr [_,_]
 obtain rfl:i=cnt off n:=by omega
 rw [hL] at hq
 subst hq
 exact Wz
end Go.Proofs.YtmhapcbjjpadnaaGreat
namespace Go.Proofs.YtmhapcbjjpadnaaGreat
open Go Go.Sk Go.RowKit
theorem Ok.a127 {c:Dc} (h:Ok c) {n:Nat} {u:Us} (hn:n<c.fr.length)(hu:c.fr.getD n none=some u):aM Tryz.prog 127 [] [.agg c.c,.int .i64 ((n+1:Nat):Int)] (.agg (c.acc n u.ten).c) []:=
 bHG c n u h.sm hn hu (by rw [h.nl];exact(h.use n u hn hu).ten) (h.smL _)
theorem Ok.p155 {c:Dc} (h:Ok c) {n:Nat} {u u':Us} (hn:n<c.fr.length)(hu:c.fr.getD n none=some u)(hk:iF u'=iF u)(hp:dI u'.p)(hr:u'.rd<4)(hw:u'.wr<4):aM Tryz.prog 155 [] [.agg c.c,.int .i64 ((n+1:Nat):Int),.agg u'.c] (.agg (c.put n u').c) []:=by
 have k:=h.use n u hn hu
 have f:=h.file _ k.file
 simp only [iF,Prod.mk.injEq] at hk
 obtain⟨k1,k2,k3⟩:=hk
 refine aUJ c n u' h.sm ⟨by show n< (c.fr.set n (some u')).length;rw [List.length_set];exact hn,aJ _ _ _ _ hn,?_,?_,?_,?_,?_,hp,?_,hr,hw⟩
 ·rw [k1];exact k.file
 ·rw [k2];have :=k.page;omega
 ·show bH (c.fl.getD u'.file aP).E;rw [k1];exact f.E
 ·show rK (c.fl.getD u'.file aP).E;rw [k1];exact f.sup
 ·show 0< ((c.fl.getD u'.file aP).E u'.page).1;rw [k1,k2,k.val];omega
 ·rw [k3];show u.ten<c.ls.length;rw [h.nl];exact k.ten
def rJ(c:Dc)(f off n:Nat):Nat->Dc×ByteArray
 |0=>(c,⟨#[]⟩)
 |k+1=>match eA c f (off/16+k) with
  |some (m,u)=>((rJ c f off n k).1.acc m u.ten,(rJ c f off n k).2++u.p.b.extract (aO (off/16+k) off n).1 ((aO (off/16+k) off n).1+(aO (off/16+k) off n).2))
  |none=>rJ c f off n k
theorem aIE {c:Dc} (h:Ok c)(f off n:Nat):∀k,Ok (rJ c f off n k).1/\(rJ c f off n k).1.fr=c.fr/\(rJ c f off n k).2.size<=16*k
 |0=>⟨h,rfl,zL 0⟩
 |k+1=>by
  obtain⟨h1,h2,h3⟩:=aIE h f off n k
  rw [rJ]
  split
  ·refine⟨h1.acc _ _,h2,?_⟩
   rw [ByteArray.size_append,ByteArray.size_extract]
   unfold aO
   dsimp only
   omega
  ·exact⟨h1,h2,by omega⟩
def bS(c:Dc)(f off n:Nat):Nat:=min n ((c.fl.getD f aP).size-off)
def aPV(c:Dc)(f off n:Nat):V:=match eR c f off (bS c f off n) false (cnt off (bS c f off n)) with
 |none=>.tup [.agg c.c,.str ⟨#[]⟩,.int .i64 4]
 |some []=>.tup [.agg (rJ c f off (bS c f off n) (cnt off (bS c f off n))).1.c,.str (rJ c f off (bS c f off n) (cnt off (bS c f off n))).2,.int .i64 0]
 |some (_::_)=>.tup [.agg c.c,.str ⟨#[]⟩,.int .i64 7]
theorem Df.cells {f:Df} (hE:bH f.E):∃k0 k1 k2 k3,f.c=[.int .i64 f.dev,.int .i64 f.slot,.int .i64 (hgt f.E:Int),.lst k0 k1 k2,.int .i64 k3,.int .i64 (lI f.E 0 (4^hgt f.E):Nat),.int .i64 (f.size:Int),.int .i64 (f.blocks:Int),.int .i64 f.ec,.int .i64 f.ee,.int .i64 0,.int .i64 0,.int .i64 0,.int .i64 0,.int .i64 0]/\can f.E=[.int .i64 (hgt f.E:Int),.lst k0 k1 k2,.int .i64 k3,.int .i64 (lI f.E 0 (4^hgt f.E):Nat)]:=by
 obtain⟨k0,k1,k2,k3,e⟩:=bB hE
 exact⟨k0,k1,k2,k3,by unfold Df.c;rw [e];rfl,e⟩
theorem bM7(c:Dc)(h:Ok c)(f off n:Nat)(hf:f<c.fl.length)(hb:off+n<=128):aM Tryz.prog 32 [] [.agg c.c,.int .i64 (f:Int),.int .i64 (off:Int),.int .i64 (n:Int)] (aPV c f off n) []:=by
 have k115:=aBY c f hf
 have k125:=pJ (off:Int) (n:Int)
 rw [iN hb] at k125
 have hgf:=iS hf
 have hs:=(h.file f hf).size
 obtain⟨k0,k1,k2,k3,hfc,-⟩:=Df.cells (h.file f hf).E
 rw [hfc] at hgf
 have hrd:max (min (n:Int) (((c.fl.getD f aP).size:Int)- (off:Int))) 0=((bS c f off n:Nat):Int):=by unfold bS;omega
 have hnl:bS c f off n<=n:=by unfold bS;omega
 have k53:=bEV c h f off (bS c f off n) hf (by omega) false
 generalize hq:aPV c f off n=q
 unfold aPV at hq
 have hcn:=fK (off:=off) (n:=bS c f off n) (by omega)
 cases hL:eR c f off (bS c f off n) false (cnt off (bS c f off n)) with
 |none=>
  rw [hL] at hq k53
  subst hq
  refine aK (ob0:= []) [] Tryz.func32 rfl rfl rfl rfl ?_
  exact Wz
 |some L=>
  rw [hL] at hq k53
  cases L with
  |cons x L=>
   dsimp only at hq
   subst hq
   have hz:=lD hL
   refine aK (ob0:= []) [] Tryz.func32 rfl rfl rfl rfl ?_
   exact Wz
  |nil=>
   dsimp only at hq
   have k66:=aGO off (bS c f off n) (by omega)
   generalize bS c f off n=n2 at *
   refine aK (ob0:= []) [] Tryz.func32 rfl rfl rfl rfl ?_
   refine Wx ?_
   refine Lp (λi:Nat=>i<=cnt off n2) (λi=> [(16,.int .i64 (i:Int)),(14,.str (rJ c f off n2 i).2)]) (λi=> [(2,.box (rJ c f off n2 i).1.c)]) (λi=>cnt off n2-i) 0 (zD _) ?_ ?_
   ·exact Vr [_,_,_]
   intro i hi
   refine Wx ?_
   refine fP (λb=>?_) (λb=>?_)
   ·have b:i<cnt off n2:=by omega
    have hg:=tH (off/16) (cnt off n2) i b
    have k126:=aEK (show off+n2<=128 by omega) b
    obtain⟨m,u,hp⟩:=pS hL i b
    have k33:=h.f33s hf hp
    obtain⟨q1,q2,q3,q4,q5⟩:=bM h hf hp
    have hu:=h.use m u q1 q2
    have hgu:=jB q1 q2
    have hnr:=h.nr
    have hsz:=hu.pg.size
    have hpi:=eY b
    obtain⟨o1,o2,o3⟩:=aIE h f off n2 i
    have k127:=o1.a127 (n:=m) (u:=u) (by rw [o2];exact q1) (by rw [o2];exact q2)
    have hst:rJ c f off n2 (i+1)=((rJ c f off n2 i).1.acc m u.ten,(rJ c f off n2 i).2++u.p.b.extract (aO (off/16+i) off n2).1 ((aO (off/16+i) off n2).1+(aO (off/16+i) off n2).2)):=by rw [rJ,hp]
    have hes:(u.p.b.extract (aO (off/16+i) off n2).1 ((aO (off/16+i) off n2).1+(aO (off/16+i) off n2).2)).size<=16:=by rw [ByteArray.size_extract];omega
    generalize rJ c f off n2 i=d at *
    refine Wx ?_
    refine Le (i+1) (hv:=?_)
    simp only [hst]
    exact Vr [_,_,_]
   obtain rfl:i=cnt off n2:=by omega
   subst hq
   exact Wz
end Go.Proofs.YtmhapcbjjpadnaaGreat
namespace Go.Proofs.YtmhapcbjjpadnaaGreat
open Go Go.Sk Go.RowKit
def eZ(f:Df)(e:Int):Option (Nat×Nat):=bif decide (e<=(f.size:Int)) then none else bif f.size%16==0 then none else bif lZ f.blocks (f.size/16) then none else some (f.size/16,bif decide (f.size%16<8) then 3 else 2)
def aH5:Option (Nat×Nat)->V
 |none=>.tup [.int .i64 (-1),.int .i64 0]
 |some (p,s)=>.tup [.int .i64 (p:Int),.int .i64 (s:Int)]
theorem mQ {f:Df} {e:Int} {p s:Nat} (h:eZ f e=some (p,s))(hs:f.size<=128):p<8/\p=f.size/16/\s<4/\(f.size:Int)<e/\f.size%16≠0/\lZ f.blocks p=false:=by
 unfold eZ at h
 by_cases h1:e<=(f.size:Int)
 ·rw [decide_eq_true h1] at h;cases h
 rw [decide_eq_false h1,cond_false] at h
 by_cases h2:f.size%16=0
 ·rw [beq_iff_eq.2 h2] at h;cases h
 rw [beq_eq_false_iff_ne.2 h2,cond_false] at h
 cases h3:lZ f.blocks (f.size/16) with
 |true=>rw [h3] at h;cases h
 |false=>
  rw [h3,cond_false] at h
  simp only [Option.some.injEq,Prod.mk.injEq] at h
  obtain⟨rfl,rfl⟩:=h
  refine⟨by omega,rfl,?_,by omega,h2,h3⟩
  cases decide (f.size%16<8)<;> decide
theorem bEX(c:Dc)(h:Ok c)(f:Nat)(e:Int)(hf:f<c.fl.length):aM Tryz.prog 61 [] [.agg c.c,.int .i64 (f:Int),.int .i64 e] (aH5 (eZ (c.fl.getD f aP) e)) []:=by
 have k115:=aBY c f hf
 have hgf:=iS hf
 have kf:=h.file f hf
 have hs:=kf.size
 have k121:=λhp=>bAS (c.fl.getD f aP) kf.E ((c.fl.getD f aP).size/16) hp kf.blocks
 obtain⟨k0,k1,k2,k3,hfc,-⟩:=Df.cells kf.E
 rw [hfc] at hgf
 simp only [hfc] at k121
 generalize hq:eZ (c.fl.getD f aP) e=q
 unfold eZ at hq
 generalize c.fl.getD f aP=x at *
 by_cases h1:e<=(x.size:Int)
 ·rw [decide_eq_true h1] at hq
  subst hq
  dsimp only [aH5]
  refine aK (ob0:= []) [] Tryz.func61 rfl rfl rfl rfl ?_
  exact Wz
 rw [decide_eq_false h1,cond_false] at hq
 by_cases h2:x.size%16=0
 ·rw [beq_iff_eq.2 h2] at hq
  subst hq
  dsimp only [aH5]
  refine aK (ob0:= []) [] Tryz.func61 rfl rfl rfl rfl ?_
  exact Wz
 rw [beq_eq_false_iff_ne.2 h2,cond_false] at hq
 have k121:=k121 (by omega)
 cases h3:lZ x.blocks (x.size/16) with
 |true=>
  rw [h3] at hq k121
  subst hq
  dsimp only [aH5]
  refine aK (ob0:= []) [] Tryz.func61 rfl rfl rfl rfl ?_
  exact Wz
 |false=>
  rw [h3,cond_false] at hq
  rw [h3] at k121
  subst hq
  dsimp only [aH5]
  refine aK (ob0:= []) [] Tryz.func61 rfl rfl rfl rfl ?_
  have sec:∀a i:Nat,a<=i->i<2->(2^i-2^a)||| 2^i=2^(i+1)-2^a:=by
   intro a i h1 h2
   have key:∀a i:Fin 2,a.val<=i.val->(2^i.val-2^a.val)||| 2^i.val=2^(i.val+1)-2^a.val:=by decide
   exact key ⟨a,by omega⟩ ⟨i,h2⟩ h1
  have hlt:∀i:Nat,i<=2->2^i<=4:=λi hi=>Nat.pow_le_pow_right (n:=2) (by omega) (show i<=2 from hi)
  have hsz:x.size%16/8<=1:=by omega
  refine Wx ?_
  refine Lp (λi:Nat=>x.size%16/8<=i/\i<=2) (λi=> [(9,.int .i64 (i:Int)),(8,.int .i64 ((2^i-2^(x.size%16/8):Nat):Int))]) (λi=> []) (λi=>2-i) (x.size%16/8) ⟨zL _,by omega⟩ ?_ ?_
  ·simp only [Nat.sub_self]
   exact Vr [_]
  rintro i ⟨hi0,hi⟩
  have hl:=hlt i hi
  have hfin:2^2-2^(x.size%16/8)=(bif decide (x.size%16<8) then 3 else 2:Nat):=by
   by_cases h8:x.size%16<8
   ·rw [decide_eq_true h8,show x.size%16/8=0 by omega];rfl
   ·rw [decide_eq_false h8,show x.size%16/8=1 by omega];rfl
  have e:=sec _ i hi0
  generalize 2^(x.size%16/8)=A at *
  refine Wx ?_
  refine fP (λb=>?_) (λb=>?_)
  ·have b:i<2:=by omega
   have e:=e b
   refine Wx ?_
   refine Le (i+1) (hv:=?_)
   simp only [<-e]
   exact Vr [_]
  obtain rfl:i=2:=by omega
  rw [<-hfin]
  exact Wz
def dQ(u:Us)(p:Pg):Us:=⟨u.file,u.page,p,u.ten,u.holds,u.rd,u.wr⟩
def cB(c:Dc)(f:Nat)(e:Int):Dc×Int:=match eZ (c.fl.getD f aP) e with
 |none=>(c,0)
 |some (p,s)=>match eA c f p with
  |none=>(c,4)
  |some (m,u)=>bif jC false s u.p.v==0 then(c.put m (dQ u (gR u.p s)),0) else(c,7)
theorem bAT(c:Dc)(h:Ok c)(f:Nat)(e:Int)(hf:f<c.fl.length):aM Tryz.prog 123 [] [.agg c.c,.int .i64 (f:Int),.int .i64 e] (.tup [.agg (cB c f e).1.c,.int .i64 (cB c f e).2]) []:=by
 have k61:=bEX c h f e hf
 generalize hq:cB c f e=q
 unfold cB at hq
 have hs:=(h.file f hf).size
 cases ht:eZ (c.fl.getD f aP) e with
 |none=>
  rw [ht] at hq k61
  subst hq
  refine aK (ob0:= []) [] Tryz.func123 rfl rfl rfl rfl ?_
  exact Wz
 |some x=>
  obtain⟨p,s⟩:=x
  rw [ht] at hq k61
  dsimp only at hq
  obtain⟨t1,t2,t3,t4,t5⟩:=mQ ht hs
  cases hp:eA c f p with
  |none=>
   have k33:=h.f33n hf hp
   rw [hp] at hq
   subst hq
   refine aK (ob0:= []) [] Tryz.func123 rfl rfl rfl rfl ?_
   exact Wz
  |some x=>
   obtain⟨m,u⟩:=x
   have k33:=h.f33s hf hp
   obtain⟨q1,q2,q3,q4,q5⟩:=bM h hf hp
   have hu:=h.use m u q1 q2
   have hgu:=jB q1 q2
   have hnr:=h.nr
   have hv:=hu.pg.v
   have hb:=dM (x:=s) (y:=u.p.v) (by omega) (by omega)
   have k176:=aUO u.p hu.pg s t3
   have k155:=h.p155 (u':=dQ u (gR u.p s)) q1 q2 rfl (mO hu.pg t3) hu.rd hu.wr
   rw [hp] at hq
   dsimp only at hq
   generalize jC false s u.p.v=y at *
   refine aK (ob0:= []) [] Tryz.func123 rfl rfl rfl rfl ?_
   refine Wx ?_
   refine aT6 (λd=>?_) (λd=>?_)
   ·rw [show(y==0)=false from beq_eq_false_iff_ne.2 (by omega)] at hq
    subst hq
    exact Wz
   ·rw [show(y==0)=true from beq_iff_eq.2 (by omega)] at hq
    subst hq
    exact Wz
end Go.Proofs.YtmhapcbjjpadnaaGreat
