/- Caches. -/
import Derived.Test.YtmhapcbjjpadnaaGreatGEm
set_option linter.unusedSimpArgs false
set_option linter.unusedVariables false
open List renaming getD_eq_getElem?_getD→zA,length_map→zC,getElem?_eq_none→zE,length_take→zG
open Nat renaming min_eq_left→zD,le_of_lt→zF
set_option linter.constructorNameAsVariable false
set_option maxRecDepth 40000
namespace Go.Proofs.YtmhapcbjjpadnaaGreat
open Go Go.Sk Go.RowKit
def iS(b s:List UInt8)(f:Nat→Bool)(i:Nat):List UInt8:=(List.range b.length).map fun j=>bif decide (j<i)&&f (j/8) then s.getD j 0 else b.getD j 0
theorem iD(b s:List UInt8)(f:Nat→Bool)(i:Nat):(iS b s f i).length=b.length:=by simp [iS]
theorem jL(b s:List UInt8)(f:Nat→Bool)(i j:Nat)(h:j<b.length):(iS b s f i)[j]? =some (bif decide (j<i)&&f (j/8) then s.getD j 0 else b.getD j 0):=by
 simp [iS,h]
theorem aLK(b s:List UInt8)(f:Nat→Bool):iS b s f 0=b:=by
 apply List.ext_getElem?
 intro j
 by_cases h:j<b.length
 ·rw [jL _ _ _ _ _ h];simp [h]
 ·rw [zE (by rw [iD];omega),zE (by omega)]
def pV(s v q:Nat):Bool:=bif (((s &&& 2^q:Nat):Int) != 0) then(((v &&& 2^q:Nat):Int)==0) else false
def nC(p:Pg)(s:Nat)(d:ByteArray):Pg:=⟨⟨(iS p.b.data.toList d.data.toList (pV s p.v) 16).toArray⟩,p.v ||| s,p.d⟩
end Go.Proofs.YtmhapcbjjpadnaaGreat
set_option maxRecDepth 40000
namespace Go.Proofs.YtmhapcbjjpadnaaGreat
open Go Go.Sk Go.RowKit
def oI(off n:Int):Bool:=decide (0≤off∧0≤n∧off≤128∧n≤128-off)
theorem uL(off n:Int):aQ Tryz.prog 161 [] [.int .i64 off,.int .i64 n] (.bool (oI off n)) []:=by
 have key:(bif bif bif decide (0≤off) then decide (0≤n) else false then decide (off≤128) else false then decide (n≤IntKind.i64.wrap (128-off)) else false)=oI off n:=by
  unfold oI
  by_cases a1:0≤off
  ·by_cases a2:0≤n
   ·by_cases a3:off≤128
    ·rw [aY (n:=128-off) (by omega) (by omega)];simp [a1,a2,a3]
    ·simp [a1,a2,a3]
   ·simp [a1,a2]
  ·simp [a1]
 refine aF (ob0:= []) [] Tryz.func161 rfl rfl rfl rfl ?_
 refine Wk ?_
 rw [key]
 try subst hk
 exact Lf
theorem sU {off n:Nat} (h:off+n≤128):oI (off:Int) (n:Int)=true:=decide_eq_true ⟨by omega,by omega,by omega,by omega⟩
theorem bB7 {off n:Int} (h:oI off n=true):∃a b:Nat,off=a∧n=b∧a+b≤128:=by
 have :=of_decide_eq_true h
 exact⟨off.toNat,n.toNat,by omega,by omega,by omega⟩
def aCA(off n:Nat):Nat:=(off+n+15)/16-off/16
def pgR(a k:Nat):List (List V):=aJ ((List.range' a k).map fun x:Nat=>(x:Int))
@[simp] theorem bHW (a k:Nat):(pgR a k).length=k:=by simp [pgR]
theorem aTW(a k:Nat):pgR a (k+1)=pgR a k++ [[.int .i64 ((a+k:Nat):Int)]]:=by simp [pgR,aJ,List.range'_concat]
theorem bFE(n:Nat)(h:n≤1000000):aQ Tryz.prog 173 [] [.int .i64 (n:Int)] (.int .i64 (((n+15)/16:Nat):Int)) []:=by
 refine bM (ob0:= []) [] Tryz.func173 rfl rfl rfl rfl ?_
 exact Wz
theorem bAN(off n:Int)(h:n<1∨oI off n=false):aQ Tryz.prog 65 [] [.int .i64 off,.int .i64 n] (.lst 0 true []) []:=by
 have k161:=uL off n
 refine bM (ob0:= []) [] Tryz.func65 rfl rfl rfl rfl ?_
 by_cases h1:n<1
 ·exact Wz
 ·rw [h.resolve_left h1] at k161
  exact Wz
set_option maxHeartbeats 1000000 in
theorem bJC(off n:Nat)(h:1≤n)(h2:off+n≤128):aQ Tryz.prog 65 [] [.int .i64 (off:Int),.int .i64 (n:Int)] (.lst 1 false (pgR (off/16) (aCA off n))) []:=by
 have k161:=uL (off:Int) (n:Int)
 rw [sU h2] at k161
 have k173:=bFE (off+n) (by omega)
 refine bM (ob0:= []) [] Tryz.func65 rfl rfl rfl rfl ?_
 have e:aCA off n=(off+n+15)/16-off/16:=rfl
 refine Wx ?_
 refine Lp (fun i:Nat=>i≤aCA off n) (fun i=> [(6,.int .i64 ((off/16+i:Nat):Int)),(5,.sl 0 0 i)]) (fun i=> [(0,.row 1 (pgR (off/16) i))]) (fun i=>aCA off n-i) 0 (Nat.zero_le _) ?_ ?_
 ·exact Vr [none]
 intro i hi
 refine Wx ?_
 refine lP (fun b=>?_) (fun b=>?_)
 ·refine Wx ?_
  refine Le (i+1) (hv:=?_)
  simp only [aTW]
  exact Vr [_]
 obtain rfl:i=aCA off n:=by omega
 exact Wz
def aP(p off n:Nat):Nat×Nat:=(max off (p*16)-p*16,min (off+n) ((p+1)*16)-max off (p*16))
end Go.Proofs.YtmhapcbjjpadnaaGreat
set_option maxRecDepth 40000
namespace Go.Proofs.YtmhapcbjjpadnaaGreat
open Go Go.Sk Go.RowKit
def sD {α:Type} (g:α→α)(l:List α)(i:Nat):List α:=(l.take i).map g++l.drop i
@[simp] theorem aSS {α:Type} (g:α→α) (l:List α) (i:Nat):(sD g l i).length=l.length:=by simp only [sD,List.length_append,zC,zG,List.length_drop];omega
theorem aPO {α:Type} (g:α→α)(l:List α):sD g l 0=l:=by simp [sD]
theorem aSQ {α:Type} (g:α→α)(l:List α):sD g l l.length=l.map g:=by simp [sD]
theorem aSR {α:Type} (g:α→α)(l:List α)(i:Nat)(d:α)(h:i<l.length):(sD g l i).getD i d=l.getD i d:=by
 simp [sD,zA,List.getElem?_append,zD (zF h)]
theorem aPN {α:Type} (g:α→α)(l:List α)(i:Nat)(d:α)(h:i<l.length):sD g l (i+1)=(sD g l i).set i (g (l.getD i d)):=by
 unfold sD
 rw [aB1 d h,List.map_append,List.set_append,if_neg (by simp [zD (zF h)]),List.drop_eq_getElem_cons h,zC,zG,zD (zF h),Nat.sub_self,List.set_cons_zero]
 simp [zA,h]
def bJL(f:Int)(p:Pt):Pt:=bif p.frame==f then⟨p.proc,p.page,p.frame,false,p.acc⟩ else p
def bH0(a b e:Int):Int×Int:=bif a==1000000 then(a,b) else(a+1,e)
end Go.Proofs.YtmhapcbjjpadnaaGreat
set_option maxRecDepth 40000
namespace Go.Proofs.YtmhapcbjjpadnaaGreat
open Go Go.Sk Go.RowKit
def aE1(l:List Pt)(e:Pt):Nat→List Pt×Bool
 |0=>([],false)
 |i+1=>(bif (mG (l.getD i p0) e||mG e (l.getD i p0)) then(bif !(aE1 l e i).2&& !mG (l.getD i p0) e then(aE1 l e i).1++ [e] else(aE1 l e i).1)++ [l.getD i p0]
   else(bif !(aE1 l e i).2&& !mG (l.getD i p0) e then(aE1 l e i).1++ [e] else(aE1 l e i).1),(aE1 l e i).2|| !mG (l.getD i p0) e)
def bIL(l:List Pt)(e:Pt):List Pt:=bif (aE1 l e l.length).2 then(aE1 l e l.length).1 else(aE1 l e l.length).1++ [e]
end Go.Proofs.YtmhapcbjjpadnaaGreat
set_option maxRecDepth 40000
namespace Go.Proofs.YtmhapcbjjpadnaaGreat
open Go Go.Sk Go.RowKit
def cC(c:Dc)(f p:Nat):Option (Nat×Us):=bif decide (0< ((c.fl.getD f aK).E p).1) then(c.fr.getD (((c.fl.getD f aK).E p).1-1).toNat none).map fun u=>((((c.fl.getD f aK).E p).1-1).toNat,u) else none
theorem bI {c:Dc} (h:Ok c) {f p n:Nat} {u:Us} (hf:f<c.fl.length)(e:cC c f p=some (n,u)):n<c.fr.length∧c.fr.getD n none=some u∧u.file=f∧u.page=p∧((c.fl.getD f aK).E p).1=((n+1:Nat):Int):=by
 unfold cC at e
 cases hd:decide (0< ((c.fl.getD f aK).E p).1) with
 |false=>rw [hd] at e;cases e
 |true=>
  rw [hd,cond_true] at e
  obtain⟨m,w,k1,k2,k3,k4,k5⟩:=h.ent f p hf (of_decide_eq_true hd)
  rw [k2,show(((m+1:Nat):Int)-1).toNat=m by omega,k3] at e
  simp only [Option.map_some,Option.some.injEq,Prod.mk.injEq] at e
  obtain⟨rfl,rfl⟩:=e
  exact⟨k1,k3,k4,k5,k2⟩
theorem uP {c:Dc} (h:Ok c) {f p:Nat} (hf:f<c.fl.length)(e:cC c f p=none):((c.fl.getD f aK).E p).1≤0:=by
 unfold cC at e
 cases hd:decide (0< ((c.fl.getD f aK).E p).1) with
 |false=>have :=of_decide_eq_false hd;omega
 |true=>
  rw [hd,cond_true] at e
  obtain⟨m,w,k1,k2,k3,k4,k5⟩:=h.ent f p hf (of_decide_eq_true hd)
  rw [k2,show(((m+1:Nat):Int)-1).toNat=m by omega,k3] at e
  cases e
theorem vK(E:cI)(p:Nat):findF E (p:Int)=bif decide ((E p).1≤0) then(0,false) else((E p).1,true):=by
 unfold findF aUW
 rw [decide_eq_true (show(0:Int)≤(p:Int) by omega),cond_true,Int.toNat_natCast]
theorem aS0 {c:Dc} (h:Ok c) {f p n:Nat} {u:Us} (hf:f<c.fl.length)(e:cC c f p=some (n,u)):findF (c.fl.getD f aK).E (p:Int)=(((n+1:Nat):Int),true):=by
 have :=(bI h hf e).2.2.2.2
 rw [vK,this,decide_eq_false (by omega)];rfl
theorem aRZ {c:Dc} (h:Ok c) {f p:Nat} (hf:f<c.fl.length)(e:cC c f p=none):findF (c.fl.getD f aK).E (p:Int)=(0,false):=by
 rw [vK,decide_eq_true (uP h hf e)];rfl
theorem Ok.f138s {c:Dc} (h:Ok c) {f p n:Nat} {u:Us} (hf:f<c.fl.length)(hp:p<16)(e:cC c f p=some (n,u)):aQ Tryz.prog 138 [] [.agg c.c,.int .i64 (f:Int),.int .i64 (p:Int)] (.tup [.int .i64 ((n+1:Nat):Int),.bool true]) []:=by
 have :=aNP c f p hp h.sm hf (h.file f hf).E (h.file f hf).sup
 rwa [aS0 h hf e] at this
theorem Ok.f138n {c:Dc} (h:Ok c) {f p:Nat} (hf:f<c.fl.length)(hp:p<16)(e:cC c f p=none):aQ Tryz.prog 138 [] [.agg c.c,.int .i64 (f:Int),.int .i64 (p:Int)] (.tup [.int .i64 0,.bool false]) []:=by
 have :=aNP c f p hp h.sm hf (h.file f hf).E (h.file f hf).sup
 rwa [aRZ h hf e] at this
def cnt(off n:Nat):Nat:=bif decide (n=0) then 0 else aCA off n
theorem jF {off n:Nat} (h:off+n≤128):off/16+cnt off n≤8:=by
 unfold cnt aCA
 by_cases e:n=0
 ·rw [decide_eq_true e,cond_true];omega
 ·rw [decide_eq_false e,cond_false];omega
theorem aDF {off n k:Nat} (h:k<cnt off n):off< (off/16+k+1)*16∧(off/16+k)*16<off+n∧1≤n:=by
 unfold cnt aCA at h
 by_cases e:n=0
 ·rw [decide_eq_true e,cond_true] at h;omega
 ·rw [decide_eq_false e,cond_false] at h;omega
theorem aXH(a m k:Nat)(h:k<m):(pgR a m).getD k []=[.int .i64 ((a+k:Nat):Int)]:=by
 simp [pgR,aJ,zA,h]
theorem bAM(off n:Nat)(h2:off+n≤128):aQ Tryz.prog 65 [] [.int .i64 (off:Int),.int .i64 (n:Int)] (.lst 1 false (pgR (off/16) (cnt off n))) []:=by
 by_cases e:n=0
 ·have :=bAN (off:Int) (n:Int) (.inl (by omega))
  unfold cnt
  rw [decide_eq_true e,cond_true]
  exact this.le (kF.refl _) tN.nils (lO.refl _)
 ·have :=bJC off n (by omega) h2
  unfold cnt
  rw [decide_eq_false e,cond_false]
  exact this
theorem fF {off n k:Nat} (hk:k<cnt off n):(aP (off/16+k) off n).1+(aP (off/16+k) off n).2≤16∧1≤(aP (off/16+k) off n).2∧(off/16+k)*16+(aP (off/16+k) off n).1+(aP (off/16+k) off n).2≤off+n∧off≤(off/16+k)*16+(aP (off/16+k) off n).1:=by
 have h2:=aDF hk
 unfold aP
 dsimp only
 generalize off/16+k=p at *
 omega
def gL(u:Us)(off n p:Nat)(w:Bool):Nat:=mH u.p (aP p off n).1 (aP p off n).2 w
def fK(c:Dc)(f off n:Nat)(w:Bool):Nat→Option (List (Nat×Nat))
 |0=>some []
 |k+1=>match fK c f off n w k,cC c f (off/16+k) with
  |some L,some (m,u)=>some (bif gL u off n (off/16+k) w==0 then L else L++ [(m+1,gL u off n (off/16+k) w)])
  |_,_=>none
theorem aQS {c:Dc} {f off n:Nat} {w:Bool} {k:Nat} (h:fK c f off n w k=none):∀ {j:Nat},k≤j→fK c f off n w j=none:=by
 intro j hj
 induction j with
 |zero=>exact(show k=0 by omega)▸h
 |succ j ih=>
  by_cases e:k=j+1
  ·subst e;exact h
  ·have :=ih (by omega)
   rw [fK,this]
theorem uW {c:Dc} {f off n:Nat} {w:Bool} :∀ {k:Nat} {L:List (Nat×Nat)},fK c f off n w k=some L→L.length≤k
 |0,L,h=>by obtain rfl:=Option.some.inj h;exact Nat.le_refl 0
 |k+1,L,h=>by
  rw [fK] at h
  split at h
  ·rename_i L0 m u h1 h2
   have :=uW h1
   obtain rfl:=Option.some.inj h
   cases(gL u off n (off/16+k) w==0)<;> simp <;> omega
  ·cases h
theorem aAA {c:Dc} {f off n:Nat} {w:Bool} :∀ {j:Nat} {L:List (Nat×Nat)},fK c f off n w j=some L→∀k,k<j→∃m u,cC c f (off/16+k)=some (m,u)
 |0,_,_,k,hk=>by omega
 |j+1,L,h,k,hk=>by
  rw [fK] at h
  split at h
  ·rename_i L0 m u h1 h2
   by_cases e:k=j
   ·subst e;exact⟨m,u,h2⟩
   ·exact aAA h1 k (by omega)
  ·cases h
def aFF(L:List (Nat×Nat)):List (List V):=L.map fun p=> [.int .i64 (p.1:Int),.int .i64 (p.2:Int)]
@[simp] theorem bDX (L:List (Nat×Nat)):(aFF L).length=L.length:=zC _
theorem aQG(L:List (Nat×Nat))(a b:Nat):aFF (L++ [(a,b)])=aFF L++ [[.int .i64 (a:Int),.int .i64 (b:Int)]]:=by simp [aFF]
def aYI:Option (List (Nat×Nat))→V
 |none=>.tup [.lst 0 true [],.int .i64 4]
 |some L=>.tup [.lst 2 false (aFF L),.int .i64 0]
end Go.Proofs.YtmhapcbjjpadnaaGreat
set_option maxRecDepth 40000
namespace Go.Proofs.YtmhapcbjjpadnaaGreat
open Go Go.Sk Go.RowKit
def mY(c:Dc)(f off n:Nat):Nat→Dc×ByteArray
 |0=>(c,⟨#[]⟩)
 |k+1=>match cC c f (off/16+k) with
  |some (m,u)=>((mY c f off n k).1.acc m u.ten,(mY c f off n k).2++u.p.b.extract (aP (off/16+k) off n).1 ((aP (off/16+k) off n).1+(aP (off/16+k) off n).2))
  |none=>mY c f off n k
theorem aLR {c:Dc} (h:Ok c)(f off n:Nat):∀k,Ok (mY c f off n k).1∧(mY c f off n k).1.fr=c.fr∧(mY c f off n k).2.size≤16*k
 |0=>⟨h,rfl,Nat.le_refl 0⟩
 |k+1=>by
  obtain⟨h1,h2,h3⟩:=aLR h f off n k
  rw [mY]
  split
  ·refine⟨h1.acc _ _,h2,?_⟩
   rw [ByteArray.size_append,ByteArray.size_extract]
   unfold aP
   dsimp only
   omega
  ·exact⟨h1,h2,by omega⟩
def bY(c:Dc)(f off n:Nat):Nat:=min n ((c.fl.getD f aK).size-off)
theorem Df.cells {f:Df} (hE:bK f.E):∃k0 k1 k2 k3,f.c=[.int .i64 f.dev,.int .i64 f.slot,.int .i64 (hgt f.E:Int),.lst k0 k1 k2,.int .i64 k3,.int .i64 (lS f.E 0 (4^hgt f.E):Nat),.int .i64 (f.size:Int),.int .i64 (f.blocks:Int),.int .i64 f.ec,.int .i64 f.ee,.int .i64 0,.int .i64 0,.int .i64 0,.int .i64 0,.int .i64 0]∧can f.E=[.int .i64 (hgt f.E:Int),.lst k0 k1 k2,.int .i64 k3,.int .i64 (lS f.E 0 (4^hgt f.E):Nat)]:=by
 obtain⟨k0,k1,k2,k3,e⟩:=bC hE
 exact⟨k0,k1,k2,k3,by unfold Df.c;rw [e];rfl,e⟩
end Go.Proofs.YtmhapcbjjpadnaaGreat
set_option maxRecDepth 40000
namespace Go.Proofs.YtmhapcbjjpadnaaGreat
open Go Go.Sk Go.RowKit
def eN(f:Df)(e:Int):Option (Nat×Nat):=bif decide (e≤(f.size:Int)) then none else bif f.size%16==0 then none else bif eU f.blocks (f.size/16) then none else some (f.size/16,bif decide (f.size%16<8) then 3 else 2)
def bKT:Option (Nat×Nat)→V
 |none=>.tup [.int .i64 (-1),.int .i64 0]
 |some (p,s)=>.tup [.int .i64 (p:Int),.int .i64 (s:Int)]
theorem pM {f:Df} {e:Int} {p s:Nat} (h:eN f e=some (p,s))(hs:f.size≤128):p<8∧p=f.size/16∧s<4∧(f.size:Int)<e∧f.size%16≠0∧eU f.blocks p=false:=by
 unfold eN at h
 by_cases h1:e≤(f.size:Int)
 ·rw [decide_eq_true h1] at h;cases h
 rw [decide_eq_false h1,cond_false] at h
 by_cases h2:f.size%16=0
 ·rw [beq_iff_eq.2 h2] at h;cases h
 rw [beq_eq_false_iff_ne.2 h2,cond_false] at h
 cases h3:eU f.blocks (f.size/16) with
 |true=>rw [h3] at h;cases h
 |false=>
  rw [h3,cond_false] at h
  simp only [Option.some.injEq,Prod.mk.injEq] at h
  obtain⟨rfl,rfl⟩:=h
  refine⟨by omega,rfl,?_,by omega,h2,h3⟩
  cases decide (f.size%16<8)<;> decide
def cD(u:Us)(p:Pg):Us:=⟨u.file,u.page,p,u.ten,u.holds,u.rd,u.wr⟩
def bT(c:Dc)(f:Nat)(e:Int):Dc×Int:=match eN (c.fl.getD f aK) e with
 |none=>(c,0)
 |some (p,s)=>match cC c f p with
  |none=>(c,4)
  |some (m,u)=>bif gP false s u.p.v==0 then(c.put m (cD u (gM u.p s)),0) else(c,7)
end Go.Proofs.YtmhapcbjjpadnaaGreat
