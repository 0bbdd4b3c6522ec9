/- Caches. -/
import Derived.Test.YtmhapcbjjpadnaaGreatGE
set_option linter.unusedSimpArgs false
set_option linter.unusedVariables false
open Bool renaming and_false→zH
open List renaming getElem?_eq_none→zA,getD_eq_getElem?_getD→zC,ext_getElem?→zD,length_map→zF,getElem?_set→zI,length_take→zK
open Nat renaming zero_le→zE,min_eq_left→zG,le_of_lt→zJ
set_option maxRecDepth 40000
namespace Go.Proofs.YtmhapcbjjpadnaaGreat
open Go Go.Sk Go.RowKit
def fT(b s:List UInt8)(f:Nat→Bool)(i:Nat):List UInt8:=(List.range b.length).map fun j=>bif decide (j<i)&&f (j/8) then s.getD j 0 else b.getD j 0
theorem dL(b s:List UInt8)(f:Nat→Bool)(i:Nat):(fT b s f i).length=b.length:=by simp [fT]
theorem fR(b s:List UInt8)(f:Nat→Bool)(i j:Nat)(h:j<b.length):(fT b s f i)[j]? =some (bif decide (j<i)&&f (j/8) then s.getD j 0 else b.getD j 0):=by
 simp [fT,h]
theorem aDT(b s:List UInt8)(f:Nat→Bool):fT b s f 0=b:=by
 apply zD
 intro j
 by_cases h:j<b.length
 ·rw [fR _ _ _ _ _ h];simp [h]
 ·rw [zA (by rw [dL];omega),zA (by omega)]
theorem aQ6(b s:List UInt8)(f:Nat→Bool)(i:Nat)(h:f (i/8)=true):fT b s f (i+1)=(fT b s f i).set i (s.getD i 0):=by
 apply zD
 intro j
 by_cases hj:j<b.length
 ·rw [fR _ _ _ _ _ hj,zI]
  by_cases e:i=j
  ·subst e
   rw [if_pos rfl,if_pos (by rw [dL];exact hj),h,decide_eq_true (by omega)];rfl
  ·rw [if_neg e,fR _ _ _ _ _ hj,show decide (j<i+1)=decide (j<i) by rw [decide_eq_decide];omega]
 ·rw [zA (by rw [dL];omega),zA (by rw [List.length_set,dL];omega)]
theorem aM8(b s:List UInt8)(f:Nat→Bool)(i:Nat)(h:f (i/8)=false):fT b s f (i+1)=fT b s f i:=by
 apply zD
 intro j
 by_cases hj:j<b.length
 ·rw [fR _ _ _ _ _ hj,fR _ _ _ _ _ hj]
  by_cases e:i=j
  ·subst e
   rw [h,zH,zH]
  ·rw [show decide (j<i+1)=decide (j<i) by rw [decide_eq_decide];omega]
 ·rw [zA (by rw [dL];omega),zA (by rw [dL];omega)]
def oW(s v q:Nat):Bool:=bif (((s &&& 2^q:Nat):Int) != 0) then(((v &&& 2^q:Nat):Int)==0) else false
def pS(p:Pg)(s:Nat)(d:ByteArray):Pg:=⟨⟨(fT p.b.data.toList d.data.toList (oW s p.v) 16).toArray⟩,p.v ||| s,p.d⟩
set_option maxHeartbeats 1000000 in
theorem bFH(p:Pg)(h:eA p)(s:Nat)(hs:s<4)(d:ByteArray)(hd:d.size=16):aN Tryz.prog 159 [] [.agg p.c,.int .i64 (s:Int),.str d] (.tup [.agg (pS p s d).c,.int .i64 0]) []:=by
 have k260:=aNW p h
 have hp:=h.size
 have hv:=h.v
 have hd4:=h.d
 simp only [pS,Pg.c]
 refine aJ (ob0:= []) [] Tryz.func159 rfl rfl rfl rfl ?_
 refine Wx ?_
 refine Lp (fun i:Nat=>i≤16) (fun i=> [(9,.int .i64 (i:Int))]) (fun i=> [(2,.bb (fT p.b.data.toList d.data.toList (oW s p.v) i))]) (fun i=>16-i) 0 (zE _) ?_ ?_
 ·rw [aDT]
  exact Vr [_,_,_]
 intro i hi
 have h2:2^(i/8)<16:=Nat.pow_lt_pow_right (m:=i/8) (n:=4) (by omega) (by omega)
 have hl:=dL p.b.data.toList d.data.toList (oW s p.v) i
 rw [show p.b.data.toList.length=16 from hp] at hl
 refine Wx ?_
 refine iN (fun b=>?_) (fun b=>?_)
 ·refine Wx ?_
  refine aC (fun c=>?_) (fun c=>?_)
  ·have c:oW s p.v (i/8)=true:=c
   refine Wx ?_
   refine Le (i+1) (hv:=?_)
   simp only [aQ6 _ _ _ _ c]
   exact Vr [_,_,_]
  ·have c:oW s p.v (i/8)=false:=c
   refine Wx ?_
   refine Le (i+1) (hv:=?_)
   simp only [aM8 _ _ _ _ c]
   exact Vr [_,_,_]
 obtain rfl:i=16:=by omega
 exact Wz
end Go.Proofs.YtmhapcbjjpadnaaGreat
set_option maxRecDepth 40000
namespace Go.Proofs.YtmhapcbjjpadnaaGreat
open Go Go.Sk Go.RowKit
def kS(off n:Int):Bool:=decide (0≤off∧0≤n∧off≤128∧n≤128-off)
theorem uR(off n:Int):aN Tryz.prog 125 [] [.int .i64 off,.int .i64 n] (.bool (kS off n)) []:=by
 have key:(bif bif bif decide (0≤off) then decide (0≤n) else false then decide (off≤128) else false then decide (n≤IntKind.i64.wrap (128-off)) else false)=kS off n:=by
  unfold kS
  by_cases a1:0≤off
  ·by_cases a2:0≤n
   ·by_cases a3:off≤128
    ·rw [aO (n:=128-off) (by omega) (by omega)];simp [a1,a2,a3]
    ·simp [a1,a2,a3]
   ·simp [a1,a2]
  ·simp [a1]
 refine aF (ob0:= []) [] Tryz.func125 rfl rfl rfl rfl ?_
 refine Wk ?_
 rw [key]
 try subst hk
 exact Lf
theorem tE {off n:Nat} (h:off+n≤128):kS (off:Int) (n:Int)=true:=decide_eq_true ⟨by omega,by omega,by omega,by omega⟩
theorem aLA {off n:Int} (h:kS off n=true):∃a b:Nat,off=a∧n=b∧a+b≤128:=by
 have :=of_decide_eq_true h
 exact⟨off.toNat,n.toNat,by omega,by omega,by omega⟩
def sN(off n:Nat):Nat:=(off+n+15)/16-off/16
def pgR(a k:Nat):List (List V):=aE ((List.range' a k).map fun x:Nat=>(x:Int))
@[simp] theorem bIE (a k:Nat):(pgR a k).length=k:=by simp [pgR]
theorem aK1(a k:Nat):pgR a (k+1)=pgR a k++ [[.int .i64 ((a+k:Nat):Int)]]:=by simp [pgR,aE,List.range'_concat]
theorem bHE(off n:Int)(h:n<1∨kS off n=false):aN Tryz.prog 66 [] [.int .i64 off,.int .i64 n] (.lst 0 true []) []:=by
 have k125:=uR off n
 refine aJ (ob0:= []) [] Tryz.func66 rfl rfl rfl rfl ?_
 by_cases h1:n<1
 ·exact Wz
 ·rw [h.resolve_left h1] at k125
  exact Wz
set_option maxHeartbeats 1000000 in
theorem bJM(off n:Nat)(h:1≤n)(h2:off+n≤128):aN Tryz.prog 66 [] [.int .i64 (off:Int),.int .i64 (n:Int)] (.lst 1 false (pgR (off/16) (sN off n))) []:=by
 have k125:=uR (off:Int) (n:Int)
 rw [tE h2] at k125
 refine aJ (ob0:= []) [] Tryz.func66 rfl rfl rfl rfl ?_
 have e:sN off n=(off+n+15)/16-off/16:=rfl
 refine Wx ?_
 refine Lp (fun i:Nat=>i≤sN off n) (fun i=> [(6,.int .i64 ((off/16+i:Nat):Int)),(5,.sl 0 0 i)]) (fun i=> [(0,.row 1 (pgR (off/16) i))]) (fun i=>sN off n-i) 0 (zE _) ?_ ?_
 ·exact Vr [none]
 intro i hi
 refine Wx ?_
 refine iN (fun b=>?_) (fun b=>?_)
 ·refine Wx ?_
  refine Le (i+1) (hv:=?_)
  simp only [aK1]
  exact Vr [_]
 obtain rfl:i=sN off n:=by omega
 exact Wz
def bY(p off n:Nat):Nat×Nat:=(max off (p*16)-p*16,min (off+n) ((p+1)*16)-max off (p*16))
theorem bF3(p off n:Nat)(hp:p≤8)(h:off+n≤128)(h1:off≤(p+1)*16)(h2:p*16≤off+n):aN Tryz.prog 126 [] [.int .i64 (p:Int),.int .i64 (off:Int),.int .i64 (n:Int)] (.tup [.int .i64 ((bY p off n).1:Int),.int .i64 ((bY p off n).2:Int)]) []:=by
 unfold bY
 refine aJ (ob0:= []) [] Tryz.func126 rfl rfl rfl rfl ?_
 exact Wz
end Go.Proofs.YtmhapcbjjpadnaaGreat
set_option maxRecDepth 40000
namespace Go.Proofs.YtmhapcbjjpadnaaGreat
open Go Go.Sk Go.RowKit
def mV {α:Type} (g:α→α)(l:List α)(i:Nat):List α:=(l.take i).map g++l.drop i
@[simp] theorem uL {α:Type} (g:α→α) (l:List α) (i:Nat):(mV g l i).length=l.length:=by simp only [mV,List.length_append,zF,zK,List.length_drop];omega
theorem aFC {α:Type} (g:α→α)(l:List α):mV g l 0=l:=by simp [mV]
theorem aJL {α:Type} (g:α→α)(l:List α):mV g l l.length=l.map g:=by simp [mV]
theorem aDE {α:Type} (g:α→α)(l:List α)(i:Nat)(d:α)(h:i<l.length):(mV g l i).getD i d=l.getD i d:=by
 simp [mV,zC,List.getElem?_append,zG (zJ h)]
theorem aA0 {α:Type} (g:α→α)(l:List α)(i:Nat)(d:α)(h:i<l.length):mV g l (i+1)=(mV g l i).set i (g (l.getD i d)):=by
 unfold mV
 rw [aBF d h,List.map_append,List.set_append,if_neg (by simp [zG (zJ h)]),List.drop_eq_getElem_cons h,zF,zK,zG (zJ h),Nat.sub_self,List.set_cons_zero]
 simp [zC,h]
theorem aPV {α:Type} (g:α→α)(l:List α)(i:Nat)(d:α)(h:i<l.length)(e:g (l.getD i d)=l.getD i d):mV g l (i+1)=mV g l i:=by
 rw [aA0 g l i d h,e,←aDE g l i d h]
 apply zD
 intro j
 rw [zI]
 split
 ·rename_i e;subst e
  rw [if_pos (by rw [uL];exact h)]
  have hi:i< (mV g l i).length:=by rw [uL];exact h
  rw [zC,List.getElem?_eq_getElem hi];rfl
 ·rfl
def aBS(f:Int)(p:Pt):Pt:=bif p.frame==f then⟨p.proc,p.page,p.frame,false,p.acc⟩ else p
def bME(f:Int)(p:Pt):Pt:=bif p.frame==f then⟨p.proc,p.page,p.frame,p.wr,false⟩ else p
set_option maxHeartbeats 1000000 in
theorem bG9(l:List Pt)(f:Int)(hc:jV l=true)(hl:l.length≤100000):aN Tryz.prog 279 [] [.lst 5 false (aX l),.int .i64 f] (.lst 5 false (aX (l.map (aBS f)))) []:=by
 have k202:=aTE l false hl
 rw [hc] at k202
 refine aJ (ob0:= []) [] Tryz.func279 rfl rfl rfl rfl ?_
 refine Wx ?_
 refine Lp (fun i:Nat=>i≤l.length) (fun i=> [(6,.int .i64 (i:Int))]) (fun i=> [(0,.row 5 (aX (mV (aBS f) l i)))]) (fun i=>l.length-i) 0 (zE _) ?_ ?_
 ·rw [aFC];exact Vr [_]
 intro i hi
 refine Wx ?_
 refine iN (fun b=>?_) (fun b=>?_)
 ·have b:i<l.length:=by omega
  have hg:=iL (mV (aBS f) l i) i (by rw [uL];exact b)
  rw [aDE _ _ _ _ b] at hg
  have hs:=aA0 (aBS f) l i p0 b
  have hm:=aPV (aBS f) l i p0 b
  have hp:aBS f (l.getD i p0)=bif (l.getD i p0).frame==f then⟨(l.getD i p0).proc,(l.getD i p0).page,(l.getD i p0).frame,false,(l.getD i p0).acc⟩ else l.getD i p0:=rfl
  generalize l.getD i p0=x at *
  refine Wx ?_
  refine aC (fun c=>?_) (fun c=>?_)
  ·rw [c,cond_true] at hp
   refine Wx ?_
   refine Le (i+1) (hv:=?_)
   simp only [hs,hp,←aFS]
   exact Vr [_]
  ·rw [c,cond_false] at hp
   refine Wx ?_
   refine Le (i+1) (hv:=?_)
   simp only [hm hp]
   exact Vr [_]
 obtain rfl:i=l.length:=by omega
 rw [aJL]
 exact Wz
theorem bGO(a b:Int):aN Tryz.prog 331 [] [.agg [.int .i64 a,.int .i64 b]] (.bool (bif (bif decide (0≤a) then decide (a≤1000000) else false) then(a==0)==(b==0) else false)) []:=by
 refine aJ (ob0:= []) [] Tryz.func331 rfl rfl rfl rfl ?_
 exact Wz
def aAG(a b e:Int):Int×Int:=bif a==1000000 then(a,b) else(a+1,e)
theorem bG6(a b e:Int)(h0:0≤a)(h1:a≤1000000)(h2:a=0↔b=0)(he:e≠0):aN Tryz.prog 275 [] [.agg [.int .i64 a,.int .i64 b],.int .i64 e] (.tup [.agg [.int .i64 (aAG a b e).1,.int .i64 (aAG a b e).2],.int .i64 (bif a==1000000 then 3 else 0)]) []:=by
 have k:=bGO a b
 have e1:(bif (bif decide (0≤a) then decide (a≤1000000) else false) then(a==0)==(b==0) else false)=true:=by
  rw [decide_eq_true h0,decide_eq_true h1]
  by_cases x:a=0
  ·simp [x,h2.1 x]
  ·have :b≠0:=fun y=>x (h2.2 y)
   rw [beq_eq_false_iff_ne.2 x,beq_eq_false_iff_ne.2 this];rfl
 rw [e1] at k
 unfold aAG
 refine aJ (ob0:= []) [] Tryz.func275 rfl rfl rfl rfl ?_
 refine Wx ?_
 refine bB2 (fun b=>?_) (fun b=>?_)
 ·subst b
  exact Wz
 ·rw [beq_eq_false_iff_ne.2 b]
  exact Wz
theorem bGW(s:Nat)(h:s<7):aN Tryz.prog 356 [] [.int .i64 (s:Int)] (.bool true) []:=by
 match s,h with
 |0,_=>exact run_eq E1 40 (by kernel_rfl)
 |1,_=>exact run_eq E1 40 (by kernel_rfl)
 |2,_=>exact run_eq E1 40 (by kernel_rfl)
 |3,_=>exact run_eq E1 40 (by kernel_rfl)
 |4,_=>exact run_eq E1 40 (by kernel_rfl)
 |5,_=>exact run_eq E1 40 (by kernel_rfl)
 |6,_=>exact run_eq E1 40 (by kernel_rfl)
 |n+7,h=>exact absurd h (by omega)
theorem bGP(s p:Nat)(h:s<7)(hp:p<8):aN Tryz.prog 332 [] [.int .i64 (s:Int),.int .i64 (p:Int)] (.int .i64 ((s*18+2+p*2:Nat):Int)) []:=by
 have k:=bGW s h
 refine aJ (ob0:= []) [] Tryz.func332 rfl rfl rfl rfl ?_
 exact Wz
end Go.Proofs.YtmhapcbjjpadnaaGreat
set_option maxRecDepth 40000
namespace Go.Proofs.YtmhapcbjjpadnaaGreat
open Go Go.Sk Go.RowKit
def gT(l:List Pt)(e:Pt):Nat→List Pt×Bool
 |0=>([],false)
 |i+1=>(bif (dQ (l.getD i p0) e||dQ e (l.getD i p0)) then(bif !(gT l e i).2&& !dQ (l.getD i p0) e then(gT l e i).1++ [e] else(gT l e i).1)++ [l.getD i p0]
   else(bif !(gT l e i).2&& !dQ (l.getD i p0) e then(gT l e i).1++ [e] else(gT l e i).1),(gT l e i).2|| !dQ (l.getD i p0) e)
theorem aEZ(l:List Pt)(e:Pt)(i:Nat):gT l e (i+1)=(bif (dQ (l.getD i p0) e||dQ e (l.getD i p0)) then(bif !(gT l e i).2&& !dQ (l.getD i p0) e then(gT l e i).1++ [e] else(gT l e i).1)++ [l.getD i p0]
 else(bif !(gT l e i).2&& !dQ (l.getD i p0) e then(gT l e i).1++ [e] else(gT l e i).1),(gT l e i).2|| !dQ (l.getD i p0) e):=rfl
def aLQ(l:List Pt)(e:Pt):List Pt:=bif (gT l e l.length).2 then(gT l e l.length).1 else(gT l e l.length).1++ [e]
theorem aRX(l:List Pt)(e:Pt)(i:Nat):(gT l e i).1.length≤2*i:=by
 induction i with
 |zero=>simp [gT]
 |succ i ih=>
  unfold gT
  dsimp only
  cases(dQ (l.getD i p0) e||dQ e (l.getD i p0))<;> cases(!(gT l e i).2&& !dQ (l.getD i p0) e)<;> simp <;> omega
theorem aFR(a:List Pt)(x:Pt):aX (a++ [x])=aX a++ [x.c]:=by simp [aX]
set_option maxHeartbeats 2000000 in
theorem bFJ(l:List Pt)(e:Pt)(hc:jV l=true)(hl:l.length≤10000)(he:dR e=true):aN Tryz.prog 175 [] [.lst 5 false (aX l),.agg e.c] (.tup [.lst 5 false (aX (aLQ l e)),.int .i64 0]) []:=by
 have k202:=aTE l false (by omega)
 have k273:=aZW e
 rw [hc] at k202
 rw [he] at k273
 refine aJ (ob0:= []) [] Tryz.func175 rfl rfl rfl rfl ?_
 refine Wx ?_
 refine Lp (fun i:Nat=>i≤l.length) (fun i=> [(8,.int .i64 (i:Int)),(7,.bool (gT l e i).2),(6,.sl 1 0 (gT l e i).1.length)]) (fun i=> [(1,.row 5 (aX (gT l e i).1))]) (fun i=>l.length-i) 0 (zE _) ?_ ?_
 ·exact Vr [_,none]
 intro i hi
 have hz:=aRX l e i
 refine Wx ?_
 refine iN (fun b=>?_) (fun b=>?_)
 ·have b:i<l.length:=by omega
  have hg:=iL l i b
  have k1:=aTR (l.getD i p0) e
  have k2:=aTR e (l.getD i p0)
  have hs:=aEZ l e i
  generalize l.getD i p0=x at *
  generalize dQ x e=u at *
  generalize dQ e x=v at *
  generalize gT l e i=q at *
  obtain⟨o,pl⟩:=q
  dsimp only at hz hs⊢
  cases pl <;> cases u <;> cases v
  all_goals
   simp only [Bool.or_true,Bool.or_false,Bool.or_self,Bool.and_true,zH,Bool.and_self,Bool.not_true,Bool.not_false,Bool.true_or,Bool.false_or,cond_true,cond_false] at hs
   refine Wx ?_
   refine Le (i+1) (hv:=?_)
   simp only [hs,aFR]
   exact Vr [_,_]
 obtain rfl:i=l.length:=by omega
 unfold aLQ
 generalize gT l e l.length=q at *
 obtain⟨o,pl⟩:=q
 dsimp only at hz⊢
 cases pl
 ·simp only [cond_false,aFR]
  exact Wz
 ·exact Wz
end Go.Proofs.YtmhapcbjjpadnaaGreat
set_option maxRecDepth 40000
namespace Go.Proofs.YtmhapcbjjpadnaaGreat
open Go Go.Sk Go.RowKit
def gV(c:Dc)(f p:Nat):Option (Nat×Us):=bif decide (0< ((c.fl.getD f aR).E p).1) then(c.fr.getD (((c.fl.getD f aR).E p).1-1).toNat none).map fun u=>((((c.fl.getD f aR).E p).1-1).toNat,u) else none
theorem cL {c:Dc} (h:Ok c) {f p n:Nat} {u:Us} (hf:f<c.fl.length)(e:gV c f p=some (n,u)):n<c.fr.length∧c.fr.getD n none=some u∧u.file=f∧u.page=p∧((c.fl.getD f aR).E p).1=((n+1:Nat):Int):=by
 unfold gV at e
 cases hd:decide (0< ((c.fl.getD f aR).E p).1) with
 |false=>rw [hd] at e;cases e
 |true=>
  rw [hd,cond_true] at e
  obtain⟨m,w,k1,k2,k3,k4,k5⟩:=h.ent f p hf (of_decide_eq_true hd)
  rw [k2,show(((m+1:Nat):Int)-1).toNat=m by omega,k3] at e
  simp only [Option.map_some,Option.some.injEq,Prod.mk.injEq] at e
  obtain⟨rfl,rfl⟩:=e
  exact⟨k1,k3,k4,k5,k2⟩
theorem aDU {c:Dc} (h:Ok c) {f p:Nat} (hf:f<c.fl.length)(e:gV c f p=none):((c.fl.getD f aR).E p).1≤0:=by
 unfold gV at e
 cases hd:decide (0< ((c.fl.getD f aR).E p).1) with
 |false=>have :=of_decide_eq_false hd;omega
 |true=>
  rw [hd,cond_true] at e
  obtain⟨m,w,k1,k2,k3,k4,k5⟩:=h.ent f p hf (of_decide_eq_true hd)
  rw [k2,show(((m+1:Nat):Int)-1).toNat=m by omega,k3] at e
  cases e
theorem rU(E:cK)(p:Nat):findF E (p:Int)=bif decide ((E p).1≤0) then(0,false) else((E p).1,true):=by
 unfold findF tW
 rw [decide_eq_true (show(0:Int)≤(p:Int) by omega),cond_true,Int.toNat_natCast]
theorem bBD {c:Dc} (h:Ok c) {f p n:Nat} {u:Us} (hf:f<c.fl.length)(e:gV c f p=some (n,u)):findF (c.fl.getD f aR).E (p:Int)=(((n+1:Nat):Int),true):=by
 have :=(cL h hf e).2.2.2.2
 rw [rU,this,decide_eq_false (by omega)];rfl
theorem bBC {c:Dc} (h:Ok c) {f p:Nat} (hf:f<c.fl.length)(e:gV c f p=none):findF (c.fl.getD f aR).E (p:Int)=(0,false):=by
 rw [rU,decide_eq_true (aDU h hf e)];rfl
theorem Ok.f33s {c:Dc} (h:Ok c) {f p n:Nat} {u:Us} (hf:f<c.fl.length)(e:gV c f p=some (n,u)):aN Tryz.prog 33 [] [.agg c.c,.int .i64 (f:Int),.int .i64 (p:Int)] (.tup [.int .i64 ((n+1:Nat):Int),.bool true]) []:=by
 have :=bCN c f (p:Int) h.sm hf (h.file f hf).E (h.file f hf).sup
 rwa [bBD h hf e] at this
theorem Ok.f33n {c:Dc} (h:Ok c) {f p:Nat} (hf:f<c.fl.length)(e:gV c f p=none):aN Tryz.prog 33 [] [.agg c.c,.int .i64 (f:Int),.int .i64 (p:Int)] (.tup [.int .i64 0,.bool false]) []:=by
 have :=bCN c f (p:Int) h.sm hf (h.file f hf).E (h.file f hf).sup
 rwa [bBC h hf e] at this
def cnt(off n:Nat):Nat:=bif decide (n=0) then 0 else sN off n
theorem oO {off n:Nat} (h:off+n≤128):off/16+cnt off n≤8:=by
 unfold cnt sN
 by_cases e:n=0
 ·rw [decide_eq_true e,cond_true];omega
 ·rw [decide_eq_false e,cond_false];omega
theorem bAF {off n k:Nat} (h:k<cnt off n):off< (off/16+k+1)*16∧(off/16+k)*16<off+n∧1≤n:=by
 unfold cnt sN at h
 by_cases e:n=0
 ·rw [decide_eq_true e,cond_true] at h;omega
 ·rw [decide_eq_false e,cond_false] at h;omega
theorem aC7(a m k:Nat)(h:k<m):(pgR a m).getD k []=[.int .i64 ((a+k:Nat):Int)]:=by
 simp [pgR,aE,zC,h]
theorem aO2(off n:Nat)(h2:off+n≤128):aN Tryz.prog 66 [] [.int .i64 (off:Int),.int .i64 (n:Int)] (.lst 1 false (pgR (off/16) (cnt off n))) []:=by
 by_cases e:n=0
 ·have :=bHE (off:Int) (n:Int) (.inl (by omega))
  unfold cnt
  rw [decide_eq_true e,cond_true]
  exact this.le (kP.refl _) vI.nils (nF.refl _)
 ·have :=bJM off n (by omega) h2
  unfold cnt
  rw [decide_eq_false e,cond_false]
  exact this
theorem aH9 {off n k:Nat} (h:off+n≤128)(hk:k<cnt off n):aN Tryz.prog 126 [] [.int .i64 ((off/16+k:Nat):Int),.int .i64 (off:Int),.int .i64 (n:Int)] (.tup [.int .i64 ((bY (off/16+k) off n).1:Int),.int .i64 ((bY (off/16+k) off n).2:Int)]) []:=by
 have h1:=oO h
 have h2:=bAF hk
 exact bF3 _ off n (by omega) h (by omega) (by omega)
theorem pI {off n k:Nat} (hk:k<cnt off n):(bY (off/16+k) off n).1+(bY (off/16+k) off n).2≤16∧1≤(bY (off/16+k) off n).2∧(off/16+k)*16+(bY (off/16+k) off n).1+(bY (off/16+k) off n).2≤off+n∧off≤(off/16+k)*16+(bY (off/16+k) off n).1:=by
 have h2:=bAF hk
 unfold bY
 dsimp only
 generalize off/16+k=p at *
 omega
def iZ(u:Us)(off n p:Nat)(w:Bool):Nat:=aB0 u.p (bY p off n).1 (bY p off n).2 w
def jB(c:Dc)(f off n:Nat)(w:Bool):Nat→Option (List (Nat×Nat))
 |0=>some []
 |k+1=>match jB c f off n w k,gV c f (off/16+k) with
  |some L,some (m,u)=>some (bif iZ u off n (off/16+k) w==0 then L else L++ [(m+1,iZ u off n (off/16+k) w)])
  |_,_=>none
theorem aQW {c:Dc} {f off n:Nat} {w:Bool} {k:Nat} (h:jB c f off n w k=none):∀ {j:Nat},k≤j→jB c f off n w j=none:=by
 intro j hj
 induction j with
 |zero=>exact(show k=0 by omega)▸h
 |succ j ih=>
  by_cases e:k=j+1
  ·subst e;exact h
  ·have :=ih (by omega)
   rw [jB,this]
theorem aEA {c:Dc} {f off n:Nat} {w:Bool} :∀ {k:Nat} {L:List (Nat×Nat)},jB c f off n w k=some L→L.length≤k
 |0,L,h=>by obtain rfl:=Option.some.inj h;exact Nat.le_refl 0
 |k+1,L,h=>by
  rw [jB] at h
  split at h
  ·rename_i L0 m u h1 h2
   have :=aEA h1
   obtain rfl:=Option.some.inj h
   cases(iZ u off n (off/16+k) w==0)<;> simp <;> omega
  ·cases h
theorem aG8 {c:Dc} {f off n:Nat} {w:Bool} :∀ {j:Nat} {L:List (Nat×Nat)},jB c f off n w j=some L→∀k,k<j→∃m u,gV c f (off/16+k)=some (m,u)
 |0,_,_,k,hk=>by omega
 |j+1,L,h,k,hk=>by
  rw [jB] at h
  split at h
  ·rename_i L0 m u h1 h2
   by_cases e:k=j
   ·subst e;exact⟨m,u,h2⟩
   ·exact aG8 h1 k (by omega)
  ·cases h
def aFQ(L:List (Nat×Nat)):List (List V):=L.map fun p=> [.int .i64 (p.1:Int),.int .i64 (p.2:Int)]
@[simp] theorem bDR (L:List (Nat×Nat)):(aFQ L).length=L.length:=zF _
theorem aQN(L:List (Nat×Nat))(a b:Nat):aFQ (L++ [(a,b)])=aFQ L++ [[.int .i64 (a:Int),.int .i64 (b:Int)]]:=by simp [aFQ]
def aY6:Option (List (Nat×Nat))→V
 |none=>.tup [.lst 0 true [],.int .i64 4]
 |some L=>.tup [.lst 2 false (aFQ L),.int .i64 0]
theorem bBZ(c:Dc)(f:Int)(hf:¬(0≤f∧f< (c.fl.length:Int))):aN Tryz.prog 115 [] [.agg c.c,.int .i64 f] (.bool false) []:=by
 have e:(bif decide (0≤f) then decide (f< (c.fl.length:Int)) else false)=false:=by
  by_cases a:0≤f
  ·rw [decide_eq_true a,cond_true];exact decide_eq_false (fun b=>hf ⟨a,b⟩)
  ·rw [decide_eq_false a,cond_false]
 rw [←e]
 refine aJ (ob0:= []) [] Tryz.func115 rfl rfl rfl rfl ?_
 exact Wz
set_option maxHeartbeats 2000000 in
theorem bJJ(c:Dc)(h:Ok c)(f off n:Nat)(hf:f<c.fl.length)(hb:off+n≤128)(w:Bool):aN Tryz.prog 53 [] [.agg c.c,.int .i64 (f:Int),.int .i64 (off:Int),.int .i64 (n:Int),.bool w] (aY6 (jB c f off n w (cnt off n))) []:=by
 have k115:=aDM c f hf
 have k125:=uR (off:Int) (n:Int)
 have k66:=aO2 off n hb
 rw [tE hb] at k125
 have hc:=oO hb
 generalize hq:aY6 (jB c f off n w (cnt off n))=q
 refine aJ (ob0:= []) [] Tryz.func53 rfl rfl rfl rfl ?_
 refine Wx ?_
 refine Lp (α:=Nat×List (Nat×Nat)) (fun a=>a.1≤cnt off n∧jB c f off n w a.1=some a.2) (fun a=> [(14,.int .i64 (a.1:Int)),(12,.sl 1 0 a.2.length)]) (fun a=> [(1,.row 2 (aFQ a.2))]) (fun a=>cnt off n-a.1) (0,[]) ⟨zE _,rfl⟩ ?_ ?_
 ·exact Vr [_,none]
 rintro ⟨i,L⟩ ⟨hi,hL⟩
 dsimp only at hi hL
 have hz:=aEA hL
 refine Wx ?_
 refine iN (fun b=>?_) (fun b=>?_)
 ·have b:i<cnt off n:=by omega
  have hg:=aC7 (off/16) (cnt off n) i b
  have k126:=aH9 hb b
  cases hp:gV c f (off/16+i) with
  |none=>
   have e:jB c f off n w (i+1)=none:=by rw [jB,hL,hp]
   rw [aQW e (show i+1≤cnt off n by omega)] at hq
   subst hq
   have k33:=h.f33n hf hp
   exact Wz
  |some x=>
   obtain⟨m,u⟩:=x
   have k33:=h.f33s hf hp
   obtain⟨q1,q2,q3,q4,q5⟩:=cL h hf hp
   have hu:=h.use m u q1 q2
   have k164:=aT6 u.p hu.pg _ _ (pI b).1 w
   have hgu:=nB q1 q2
   have hnr:=h.nr
   have e:jB c f off n w (i+1)=some (bif iZ u off n (off/16+i) w==0 then L else L++ [(m+1,iZ u off n (off/16+i) w)]):=by rw [jB,hL,hp]
   have hw:aB0 u.p (bY (off/16+i) off n).1 (bY (off/16+i) off n).2 w=iZ u off n (off/16+i) w:=rfl
   rw [hw] at k164
   generalize iZ u off n (off/16+i) w=s at *
   refine Wx ?_
   refine aVZ (fun d=>?_) (fun d=>?_)
   ·rw [show(s==0)=false from beq_eq_false_iff_ne.2 (by omega),cond_false] at e
    refine Wx ?_
    refine Le (i+1,L++ [(m+1,s)]) (hI:=⟨b,e⟩) (hv:=?_)
    simp only [aQN]
    exact Vr [_,_]
   ·rw [show(s==0)=true from beq_iff_eq.2 (by omega),cond_true] at e
    refine Wx ?_
    refine Le (i+1,L) (hI:=⟨b,e⟩) (hv:=?_)
    exact Vr [_,_]
 obtain rfl:i=cnt off n:=by omega
 rw [hL] at hq
 subst hq
 exact Wz
end Go.Proofs.YtmhapcbjjpadnaaGreat
set_option maxRecDepth 40000
namespace Go.Proofs.YtmhapcbjjpadnaaGreat
open Go Go.Sk Go.RowKit
theorem Ok.a127 {c:Dc} (h:Ok c) {n:Nat} {u:Us} (hn:n<c.fr.length)(hu:c.fr.getD n none=some u):aN Tryz.prog 127 [] [.agg c.c,.int .i64 ((n+1:Nat):Int)] (.agg (c.acc n u.ten).c) []:=
 bF4 c n u h.sm hn hu (by rw [h.nl];exact(h.use n u hn hu).ten) (h.smL _)
theorem Ok.p155 {c:Dc} (h:Ok c) {n:Nat} {u u':Us} (hn:n<c.fr.length)(hu:c.fr.getD n none=some u)(hk:iD u'=iD u)(hp:eA u'.p)(hr:u'.rd<4)(hw:u'.wr<4):aN Tryz.prog 155 [] [.agg c.c,.int .i64 ((n+1:Nat):Int),.agg u'.c] (.agg (c.put n u').c) []:=by
 have k:=h.use n u hn hu
 have f:=h.file _ k.file
 simp only [iD,Prod.mk.injEq] at hk
 obtain⟨k1,k2,k3⟩:=hk
 refine aT4 c n u' h.sm ⟨by show n< (c.fr.set n (some u')).length;rw [List.length_set];exact hn,aL _ _ _ _ hn,?_,?_,?_,?_,?_,hp,?_,hr,hw⟩
 ·rw [k1];exact k.file
 ·rw [k2];have :=k.page;omega
 ·show bG (c.fl.getD u'.file aR).E;rw [k1];exact f.E
 ·show sQ (c.fl.getD u'.file aR).E;rw [k1];exact f.sup
 ·show 0< ((c.fl.getD u'.file aR).E u'.page).1;rw [k1,k2,k.val];omega
 ·rw [k3];show u.ten<c.ls.length;rw [h.nl];exact k.ten
def rdL(c:Dc)(f off n:Nat):Nat→Dc×ByteArray
 |0=>(c,⟨#[]⟩)
 |k+1=>match gV c f (off/16+k) with
  |some (m,u)=>((rdL c f off n k).1.acc m u.ten,(rdL c f off n k).2++u.p.b.extract (bY (off/16+k) off n).1 ((bY (off/16+k) off n).1+(bY (off/16+k) off n).2))
  |none=>rdL c f off n k
def fD(c:Dc)(f off n:Nat):Nat:=min n ((c.fl.getD f aR).size-off)
def bKT(c:Dc)(f off n:Nat):V:=match jB c f off (fD c f off n) false (cnt off (fD c f off n)) with
 |none=>.tup [.agg c.c,.str ⟨#[]⟩,.int .i64 4]
 |some []=>.tup [.agg (rdL c f off (fD c f off n) (cnt off (fD c f off n))).1.c,.str (rdL c f off (fD c f off n) (cnt off (fD c f off n))).2,.int .i64 0]
 |some (_::_)=>.tup [.agg c.c,.str ⟨#[]⟩,.int .i64 7]
theorem Df.cells {f:Df} (hE:bG f.E):∃k0 k1 k2 k3,f.c=[.int .i64 f.dev,.int .i64 f.slot,.int .i64 (hgt f.E:Int),.lst k0 k1 k2,.int .i64 k3,.int .i64 (kL f.E 0 (4^hgt f.E):Nat),.int .i64 (f.size:Int),.int .i64 (f.blocks:Int),.int .i64 f.ec,.int .i64 f.ee,.int .i64 0,.int .i64 0,.int .i64 0,.int .i64 0,.int .i64 0]∧can f.E=[.int .i64 (hgt f.E:Int),.lst k0 k1 k2,.int .i64 k3,.int .i64 (kL f.E 0 (4^hgt f.E):Nat)]:=by
 obtain⟨k0,k1,k2,k3,e⟩:=bI hE
 exact⟨k0,k1,k2,k3,by unfold Df.c;rw [e];rfl,e⟩
end Go.Proofs.YtmhapcbjjpadnaaGreat
set_option maxRecDepth 40000
namespace Go.Proofs.YtmhapcbjjpadnaaGreat
open Go Go.Sk Go.RowKit
def mN(f:Df)(e:Int):Option (Nat×Nat):=bif decide (e≤(f.size:Int)) then none else bif f.size%16==0 then none else bif kZ f.blocks (f.size/16) then none else some (f.size/16,bif decide (f.size%16<8) then 3 else 2)
def aG5:Option (Nat×Nat)→V
 |none=>.tup [.int .i64 (-1),.int .i64 0]
 |some (p,s)=>.tup [.int .i64 (p:Int),.int .i64 (s:Int)]
theorem tV {f:Df} {e:Int} {p s:Nat} (h:mN f e=some (p,s))(hs:f.size≤128):p<8∧p=f.size/16∧s<4∧(f.size:Int)<e∧f.size%16≠0∧kZ f.blocks p=false:=by
 unfold mN at h
 by_cases h1:e≤(f.size:Int)
 ·rw [decide_eq_true h1] at h;cases h
 rw [decide_eq_false h1,cond_false] at h
 by_cases h2:f.size%16=0
 ·rw [beq_iff_eq.2 h2] at h;cases h
 rw [beq_eq_false_iff_ne.2 h2,cond_false] at h
 cases h3:kZ f.blocks (f.size/16) with
 |true=>rw [h3] at h;cases h
 |false=>
  rw [h3,cond_false] at h
  simp only [Option.some.injEq,Prod.mk.injEq] at h
  obtain⟨rfl,rfl⟩:=h
  refine⟨by omega,rfl,?_,by omega,h2,h3⟩
  cases decide (f.size%16<8)<;> decide
set_option maxHeartbeats 2000000 in
theorem bHB(c:Dc)(h:Ok c)(f:Nat)(e:Int)(hf:f<c.fl.length):aN Tryz.prog 61 [] [.agg c.c,.int .i64 (f:Int),.int .i64 e] (aG5 (mN (c.fl.getD f aR) e)) []:=by
 have k115:=aDM c f hf
 have hgf:=qB hf
 have kf:=h.file f hf
 have hs:=kf.size
 have k121:=fun hp=>aZ1 (c.fl.getD f aR) kf.E ((c.fl.getD f aR).size/16) hp kf.blocks
 obtain⟨k0,k1,k2,k3,hfc,-⟩:=Df.cells kf.E
 rw [hfc] at hgf
 simp only [hfc] at k121
 generalize hq:mN (c.fl.getD f aR) e=q
 unfold mN at hq
 generalize c.fl.getD f aR=x at *
 by_cases h1:e≤(x.size:Int)
 ·rw [decide_eq_true h1] at hq
  subst hq
  dsimp only [aG5]
  refine aJ (ob0:= []) [] Tryz.func61 rfl rfl rfl rfl ?_
  exact Wz
 rw [decide_eq_false h1,cond_false] at hq
 by_cases h2:x.size%16=0
 ·rw [beq_iff_eq.2 h2] at hq
  subst hq
  dsimp only [aG5]
  refine aJ (ob0:= []) [] Tryz.func61 rfl rfl rfl rfl ?_
  exact Wz
 rw [beq_eq_false_iff_ne.2 h2,cond_false] at hq
 have k121:=k121 (by omega)
 cases h3:kZ x.blocks (x.size/16) with
 |true=>
  rw [h3] at hq k121
  subst hq
  dsimp only [aG5]
  refine aJ (ob0:= []) [] Tryz.func61 rfl rfl rfl rfl ?_
  exact Wz
 |false=>
  rw [h3,cond_false] at hq
  rw [h3] at k121
  subst hq
  dsimp only [aG5]
  refine aJ (ob0:= []) [] Tryz.func61 rfl rfl rfl rfl ?_
  have sec:∀a i:Nat,a≤i→i<2→(2^i-2^a)||| 2^i=2^(i+1)-2^a:=by
   intro a i h1 h2
   have key:∀a i:Fin 2,a.val≤i.val→(2^i.val-2^a.val)||| 2^i.val=2^(i.val+1)-2^a.val:=by decide
   exact key ⟨a,by omega⟩ ⟨i,h2⟩ h1
  have hlt:∀i:Nat,i≤2→2^i≤4:=fun i hi=>Nat.pow_le_pow_right (n:=2) (by omega) (show i≤2 from hi)
  have hsz:x.size%16/8≤1:=by omega
  refine Wx ?_
  refine Lp (fun i:Nat=>x.size%16/8≤i∧i≤2) (fun i=> [(9,.int .i64 (i:Int)),(8,.int .i64 ((2^i-2^(x.size%16/8):Nat):Int))]) (fun i=> []) (fun i=>2-i) (x.size%16/8) ⟨Nat.le_refl _,by omega⟩ ?_ ?_
  ·simp only [Nat.sub_self]
   exact Vr [_]
  rintro i ⟨hi0,hi⟩
  have hl:=hlt i hi
  have hfin:2^2-2^(x.size%16/8)=(bif decide (x.size%16<8) then 3 else 2:Nat):=by
   by_cases h8:x.size%16<8
   ·rw [decide_eq_true h8,show x.size%16/8=0 by omega];rfl
   ·rw [decide_eq_false h8,show x.size%16/8=1 by omega];rfl
  have e:=sec _ i hi0
  generalize 2^(x.size%16/8)=A at *
  refine Wx ?_
  refine iN (fun b=>?_) (fun b=>?_)
  ·have b:i<2:=by omega
   have e:=e b
   refine Wx ?_
   refine Le (i+1) (hv:=?_)
   simp only [←e]
   exact Vr [_]
  obtain rfl:i=2:=by omega
  rw [←hfin]
  exact Wz
def pZ(u:Us)(p:Pg):Us:=⟨u.file,u.page,p,u.ten,u.holds,u.rd,u.wr⟩
def cP(c:Dc)(f:Nat)(e:Int):Dc×Int:=match mN (c.fl.getD f aR) e with
 |none=>(c,0)
 |some (p,s)=>match gV c f p with
  |none=>(c,4)
  |some (m,u)=>bif jE false s u.p.v==0 then(c.put m (pZ u (aBC u.p s)),0) else(c,7)
set_option maxHeartbeats 2000000 in
theorem aZ2(c:Dc)(h:Ok c)(f:Nat)(e:Int)(hf:f<c.fl.length):aN Tryz.prog 123 [] [.agg c.c,.int .i64 (f:Int),.int .i64 e] (.tup [.agg (cP c f e).1.c,.int .i64 (cP c f e).2]) []:=by
 have k61:=bHB c h f e hf
 generalize hq:cP c f e=q
 unfold cP at hq
 have hs:=(h.file f hf).size
 cases ht:mN (c.fl.getD f aR) e with
 |none=>
  rw [ht] at hq k61
  subst hq
  refine aJ (ob0:= []) [] Tryz.func123 rfl rfl rfl rfl ?_
  exact Wz
 |some x=>
  obtain⟨p,s⟩:=x
  rw [ht] at hq k61
  dsimp only at hq
  obtain⟨t1,t2,t3,t4,t5⟩:=tV ht hs
  cases hp:gV c f p with
  |none=>
   have k33:=h.f33n hf hp
   rw [hp] at hq
   subst hq
   refine aJ (ob0:= []) [] Tryz.func123 rfl rfl rfl rfl ?_
   exact Wz
  |some x=>
   obtain⟨m,u⟩:=x
   have k33:=h.f33s hf hp
   obtain⟨q1,q2,q3,q4,q5⟩:=cL h hf hp
   have hu:=h.use m u q1 q2
   have hgu:=nB q1 q2
   have hnr:=h.nr
   have hv:=hu.pg.v
   have hb:=fC (x:=s) (y:=u.p.v) (by omega) (by omega)
   have k176:=aT7 u.p hu.pg s t3
   have k155:=h.p155 (u':=pZ u (aBC u.p s)) q1 q2 rfl (vA hu.pg t3) hu.rd hu.wr
   rw [hp] at hq
   dsimp only at hq
   generalize jE false s u.p.v=y at *
   refine aJ (ob0:= []) [] Tryz.func123 rfl rfl rfl rfl ?_
   refine Wx ?_
   refine aVZ (fun d=>?_) (fun d=>?_)
   ·rw [show(y==0)=false from beq_eq_false_iff_ne.2 (by omega)] at hq
    subst hq
    exact Wz
   ·rw [show(y==0)=true from beq_iff_eq.2 (by omega)] at hq
    subst hq
    exact Wz
end Go.Proofs.YtmhapcbjjpadnaaGreat
