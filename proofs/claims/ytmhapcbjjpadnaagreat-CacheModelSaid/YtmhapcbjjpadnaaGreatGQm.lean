/- Caches. -/
import Derived.Test.YtmhapcbjjpadnaaGreatGNm
import Derived.Test.YtmhapcbjjpadnaaGreatGFm
import Derived.Test.YtmhapcbjjpadnaaGreatXS5m
set_option linter.unusedSimpArgs false
set_option linter.unusedVariables false
open List renaming length_set→zA
open Nat renaming zero_le→zC
set_option linter.constructorNameAsVariable false
set_option maxRecDepth 40000
namespace Go.Proofs.YtmhapcbjjpadnaaGreat
open Go Go.Sk Go.RowKit
def aGQ(off n k:Nat):List (List V):=(List.range k).map fun i=> [.int .i64 ((off/16+i:Nat):Int),.int .i64 ((aP (off/16+i) off n).1:Int),.int .i64 ((aP (off/16+i) off n).2:Int)]
@[simp] theorem bGT (off n k:Nat):(aGQ off n k).length=k:=by simp [aGQ]
theorem aPY(off n k:Nat):aGQ off n (k+1)=aGQ off n k++ [[.int .i64 ((off/16+k:Nat):Int),.int .i64 ((aP (off/16+k) off n).1:Int),.int .i64 ((aP (off/16+k) off n).2:Int)]]:=by
 simp [aGQ,List.range_succ]
theorem qV(off n m k:Nat)(h:k<m):(aGQ off n m).getD k []=[.int .i64 ((off/16+k:Nat):Int),.int .i64 ((aP (off/16+k) off n).1:Int),.int .i64 ((aP (off/16+k) off n).2:Int)]:=by
 simp [aGQ,List.getD_eq_getElem?_getD,h]
theorem aT7(off n:Int)(h:n<1∨oI off n=false):aQ Tryz.prog 162 [] [.int .i64 off,.int .i64 n] (.lst 0 true []) []:=by
 have k65:=bAN off n h
 refine bM (ob0:= []) [] Tryz.func162 rfl rfl rfl rfl ?_
 refine Wy ?_
 refine Lp (fun _:Unit=>True) (fun _=> [(14,.int .i64 0),(5,.lst 0 true [])]) (fun _=> []) (fun _=>0) () trivial ?_ ?_
 ·exact Vr []
 intro _ _
 exact eR
set_option maxHeartbeats 2000000 in
theorem aD8(off n:Nat)(h2:off+n≤128):aQ Tryz.prog 162 [] [.int .i64 (off:Int),.int .i64 (n:Int)] (.lst 3 false (aGQ off n (cnt off n))) []:=by
 have k65:=bAM off n h2
 have hc:=jF h2
 refine bM (ob0:= []) [] Tryz.func162 rfl rfl rfl rfl ?_
 refine Wy ?_
 refine Lp (fun i:Nat=>i≤cnt off n) (fun i=> [(14,.int .i64 (i:Int)),(5,.sl 0 0 i)]) (fun i=> [(0,.row 3 (aGQ off n i))]) (fun i=>cnt off n-i) 0 (zC _) ?_ ?_
 ·exact Vr [none]
 intro i hi
 refine Wy ?_
 refine lP (fun b=>?_) (fun b=>?_)
 ·have b:i<cnt off n:=by omega
  have hg:=aXH (off/16) (cnt off n) i b
  have hp:=fF b
  have hq:=aDF b
  have hst:=aPY off n i
  unfold aP at hst
  refine Wy ?_
  refine Le (i+1) (hv:=?_)
  simp only [hst]
  exact Vr [_]
 obtain rfl:i=cnt off n:=by omega
 exact eR
noncomputable def R52:Rsv Tryz.prog Tryz.f52 [] 5:=⟨_,_,rfl,rfl⟩
set_option maxHeartbeats 4000000 in
theorem bGL(c:Dc)(h:Ok c)(f off n:Nat)(hf:f<c.fl.length)(hb:off+n≤128)(w:Bool):aQ Tryz.prog 52 [] [.agg c.c,.int .i64 (f:Int),.int .i64 (off:Int),.int .i64 (n:Int),.bool w] (aYI (fK c f off n w (cnt off n))) []:=by
 have k141:=aD7 c f hf
 have k161:=uL (off:Int) (n:Int)
 have k162:=aD8 off n hb
 rw [sU hb] at k161
 have hc:=jF hb
 generalize hq:aYI (fK c f off n w (cnt off n))=q
 refine bR R52 (ob0:= []) Tryz.func52 rfl rfl rfl ?_
 refine Wy ?_
 refine Lp (α:=Nat×List (Nat×Nat)) (fun a=>a.1≤cnt off n∧fK c f off n w a.1=some a.2) (fun a=> [(33,.int .i64 (a.1:Int)),(12,.sl 1 0 a.2.length)]) (fun a=> [(1,.row 2 (aFF a.2))]) (fun a=>cnt off n-a.1) (0,[]) ⟨zC _,rfl⟩ ?_ ?_
 ·exact Vr [_,none]
 rintro ⟨i,L⟩ ⟨hi,hL⟩
 dsimp only at hi hL
 have hz:=uW hL
 refine Wy ?_
 refine lP (fun b=>?_) (fun b=>?_)
 ·have b:i<cnt off n:=by omega
  have hg:=qV off n (cnt off n) i b
  cases hp:cC c f (off/16+i) with
  |none=>
   have e:fK c f off n w (i+1)=none:=by rw [fK,hL,hp]
   rw [aQS e (show i+1≤cnt off n by omega)] at hq
   subst hq
   have k138:=h.f138n hf (by omega) hp
   exact eR
  |some x=>
   obtain⟨m,u⟩:=x
   have k138:=h.f138s hf (by omega) hp
   obtain⟨q1,q2,q3,q4,q5⟩:=bI h hf hp
   have k96:=h.use96 q1 q2
   have hu:=h.use m u q1 q2
   have k163:=aT8 u.p hu.pg _ _ (fF b).1 w
   have hgu:=pH q1 q2
   have hnr:=h.nr
   have e:fK c f off n w (i+1)=some (bif gL u off n (off/16+i) w==0 then L else L++ [(m+1,gL u off n (off/16+i) w)]):=by rw [fK,hL,hp]
   have hw:mH u.p (aP (off/16+i) off n).1 (aP (off/16+i) off n).2 w=gL u off n (off/16+i) w:=rfl
   rw [hw] at k163
   generalize gL u off n (off/16+i) w=s at *
   refine Wy ?_
   refine bBC (fun d=>?_) (fun d=>?_)
   ·rw [show(s==0)=false from beq_eq_false_iff_ne.2 (by omega),cond_false] at e
    refine Wy ?_
    refine Le (i+1,L++ [(m+1,s)]) (hI:=⟨b,e⟩) (hv:=?_)
    simp only [aQG]
    exact Vr [_,_]
   ·rw [show(s==0)=true from beq_iff_eq.2 (by omega),cond_true] at e
    refine Wy ?_
    refine Le (i+1,L) (hI:=⟨b,e⟩) (hv:=?_)
    exact Vr [_,_]
 obtain rfl:i=cnt off n:=by omega
 rw [hL] at hq
 subst hq
 exact eR
end Go.Proofs.YtmhapcbjjpadnaaGreat
set_option maxRecDepth 40000
namespace Go.Proofs.YtmhapcbjjpadnaaGreat
open Go Go.Sk Go.RowKit
noncomputable def R60:Rsv Tryz.prog Tryz.f60 [] 3:=⟨_,_,rfl,rfl⟩
set_option maxHeartbeats 4000000 in
theorem bGO(c:Dc)(h:Ok c)(f:Nat)(e:Int)(hf:f<c.fl.length):aQ Tryz.prog 60 [] [.agg c.c,.int .i64 (f:Int),.int .i64 e] (.tup [.int .i64 (sP (eN (c.fl.getD f aK) e)).1,.int .i64 (sP (eN (c.fl.getD f aK) e)).2]) []:=by
 have k141:=aD7 c f hf
 have hgf:=mV hf
 have kf:=h.file f hf
 have hs:=kf.size
 have k145:=fun hp=>aZH (c.fl.getD f aK) kf.E ((c.fl.getD f aK).size/16) hp kf.blocks
 obtain⟨k0,k1,k2,k3,hfc,-⟩:=Df.cells kf.E
 rw [hfc] at hgf
 simp only [hfc] at k145
 generalize hq:sP (eN (c.fl.getD f aK) e)=q
 unfold eN at hq
 generalize c.fl.getD f aK=x at *
 by_cases h1:e≤(x.size:Int)
 ·rw [decide_eq_true h1] at hq
  subst hq
  by_cases h0:x.size/16<8
  ·have k145:=k145 h0
   refine bR R60 (ob0:= []) Tryz.func60 rfl rfl rfl ?_
   exact eR
  ·refine bR R60 (ob0:= []) Tryz.func60 rfl rfl rfl ?_
   exact eR
 rw [decide_eq_false h1,cond_false] at hq
 by_cases h2:x.size%16=0
 ·rw [beq_iff_eq.2 h2] at hq
  subst hq
  refine bR R60 (ob0:= []) Tryz.func60 rfl rfl rfl ?_
  exact eR
 rw [beq_eq_false_iff_ne.2 h2,cond_false] at hq
 have k145:=k145 (by omega)
 cases h3:eU x.blocks (x.size/16) with
 |true=>
  rw [h3] at hq k145
  subst hq
  refine bR R60 (ob0:= []) Tryz.func60 rfl rfl rfl ?_
  exact eR
 |false=>
  rw [h3,cond_false] at hq
  rw [h3] at k145
  subst hq
  by_cases h8:x.size%16<8
  ·rw [decide_eq_true h8]
   have e8:x.size%16/8=0:=by omega
   refine bR R60 (ob0:= []) Tryz.func60 rfl rfl rfl ?_
   refine Wy ?_
   rw [e8]
   exact Lz
  ·rw [decide_eq_false h8]
   have e8:x.size%16/8=1:=by omega
   refine bR R60 (ob0:= []) Tryz.func60 rfl rfl rfl ?_
   refine Wy ?_
   rw [e8]
   exact Lz
def gN(c:Dc)(f:Nat)(e:Int):Int×Int×Int:=match eN (c.fl.getD f aK) e with
 |none=>(0,0,0)
 |some (p,s)=>match cC c f p with
  |none=>(0,0,4)
  |some (m,u)=>bif gP false s u.p.v==0 then(((m+1:Nat):Int),(s:Int),0) else(0,0,7)
noncomputable def aVL:Rsv Tryz.prog Tryz.f166 [] 3:=⟨_,_,rfl,rfl⟩
set_option maxHeartbeats 4000000 in
theorem aZM(c:Dc)(h:Ok c)(f:Nat)(e:Int)(hf:f<c.fl.length):aQ Tryz.prog 166 [] [.agg c.c,.int .i64 (f:Int),.int .i64 e] (.tup [.int .i64 (gN c f e).1,.int .i64 (gN c f e).2.1,.int .i64 (gN c f e).2.2]) []:=by
 have k60:=bGO c h f e hf
 generalize hq:gN c f e=q
 unfold gN at hq
 have hs:=(h.file f hf).size
 cases ht:eN (c.fl.getD f aK) e with
 |none=>
  rw [ht] at hq k60
  subst hq
  refine bR aVL (ob0:= []) Tryz.func166 rfl rfl rfl ?_
  exact eR
 |some x=>
  obtain⟨p,s⟩:=x
  rw [ht] at hq k60
  dsimp only [sP] at hq k60
  obtain⟨t1,t2,t3,t4,t5⟩:=pM ht hs
  cases hp:cC c f p with
  |none=>
   have k138:=h.f138n hf (by omega) hp
   rw [hp] at hq
   subst hq
   refine bR aVL (ob0:= []) Tryz.func166 rfl rfl rfl ?_
   exact eR
  |some x=>
   obtain⟨m,u⟩:=x
   have k138:=h.f138s hf (by omega) hp
   obtain⟨q1,q2,q3,q4,q5⟩:=bI h hf hp
   have hu:=h.use m u q1 q2
   have hgu:=pH q1 q2
   have hnr:=h.nr
   have hv:=hu.pg.v
   have hb:=gH (x:=s) (y:=u.p.v) (by omega) (by omega)
   rw [hp] at hq
   dsimp only at hq
   generalize gP false s u.p.v=y at *
   by_cases d:y=0
   ·rw [beq_iff_eq.2 d,cond_true] at hq
    subst hq
    refine bR aVL (ob0:= []) Tryz.func166 rfl rfl rfl ?_
    exact eR
   ·rw [beq_eq_false_iff_ne.2 d,cond_false] at hq
    subst hq
    refine bR aVL (ob0:= []) Tryz.func166 rfl rfl rfl ?_
    exact eR
noncomputable def bI2:Rsv Tryz.prog Tryz.f167 [] 4:=⟨_,_,rfl,rfl⟩
set_option maxHeartbeats 4000000 in
theorem aZN(c:Dc)(h:Ok c)(m:Nat)(u:Us)(h1:m<c.fr.length)(h2:c.fr.getD m none=some u)(off:Nat)(s:ByteArray)(hr:off+s.size≤16)(hn:mH u.p off s.size true=0):
 aQ Tryz.prog 167 c.b [.ptr 0 0 0,.int .i64 ((m+1:Nat):Int),.int .i64 (off:Int),.str s] (.tup []) (c.put m (cD u (dX u.p off s))).b:=by
 have hu:=h.use m u h1 h2
 have hnr:=h.nr
 have k147:=sN c m h1 h.nr
 have hgu:=pH h1 h2
 have k266:=bFP u.p hu.pg off s hr hn
 have hw:=oB hu.pg hr
 have hG:=h.goodS h1 h2 (u':=cD u (dX u.p off s)) rfl hw hu.rd hu.wr
 have k267:=bA6 (c.setU m (cD u (dX u.p off s))) m (cD u (dX u.p off s)) hG (by show(c.fr.set m _).length≤64;rw [zA];exact h.nr)
 have hset:(bE c.fr).set m (aR 9 u.c 2 (dX u.p off s).c)=bE (c.fr.set m (some (cD u (dX u.p off s)))):=by
  unfold bE;rw [List.map_set];rfl
 have hb:(c.setU m (cD u (dX u.p off s))).b=[.box [.sl 1 0 c.fl.length,.sl 2 0 c.fr.length,.lst 6 false (aW c.zo),.lst 3 false (bP c.gr),.sl 3 0 c.ls.length,.sl 4 0 c.ck.length,.lst 5 false (bQ c.pt)],.row 15 (bG c.fl),.row 9 (bE (c.fr.set m (some (cD u (dX u.p off s))))),.row 3 (cN c.ls),.row 1 (aJ c.ck)]:=by
  unfold Dc.b Dc.setU
  dsimp only
  rw [zA]
 rw [hb,←hset] at k267
 unfold Dc.put
 generalize dX u.p off s=P at *
 refine bR bI2 (ob0:=c.b) Tryz.func167 rfl rfl rfl ?_
 exact Wo5
noncomputable def bE2:Rsv Tryz.prog Tryz.f168 [] 3:=⟨_,_,rfl,rfl⟩
theorem aLF(c:Dc)(s:Int):aQ Tryz.prog 168 c.b [.ptr 0 0 0,.int .i64 0,.int .i64 s] (.tup []) c.b:=by
 refine bR bE2 (ob0:=c.b) Tryz.func168 rfl rfl rfl ?_
 exact Wo5
set_option maxHeartbeats 4000000 in
theorem aZO(c:Dc)(h:Ok c)(m:Nat)(u:Us)(h1:m<c.fr.length)(h2:c.fr.getD m none=some u)(s:Nat)(hs:s<4):
 aQ Tryz.prog 168 c.b [.ptr 0 0 0,.int .i64 ((m+1:Nat):Int),.int .i64 (s:Int)] (.tup []) (c.put m (cD u (gM u.p s))).b:=by
 have hu:=h.use m u h1 h2
 have hnr:=h.nr
 have k147:=sN c m h1 h.nr
 have hgu:=pH h1 h2
 have k268:=bFQ u.p hu.pg s hs
 have hw:=rD hu.pg hs
 have hG:=h.goodS h1 h2 (u':=cD u (gM u.p s)) rfl hw hu.rd hu.wr
 have k267:=bA6 (c.setU m (cD u (gM u.p s))) m (cD u (gM u.p s)) hG (by show(c.fr.set m _).length≤64;rw [zA];exact h.nr)
 have hset:(bE c.fr).set m (aR 9 u.c 2 (gM u.p s).c)=bE (c.fr.set m (some (cD u (gM u.p s)))):=by
  unfold bE;rw [List.map_set];rfl
 have hb:(c.setU m (cD u (gM u.p s))).b=[.box [.sl 1 0 c.fl.length,.sl 2 0 c.fr.length,.lst 6 false (aW c.zo),.lst 3 false (bP c.gr),.sl 3 0 c.ls.length,.sl 4 0 c.ck.length,.lst 5 false (bQ c.pt)],.row 15 (bG c.fl),.row 9 (bE (c.fr.set m (some (cD u (gM u.p s))))),.row 3 (cN c.ls),.row 1 (aJ c.ck)]:=by
  unfold Dc.b Dc.setU
  dsimp only
  rw [zA]
 rw [hb,←hset] at k267
 unfold Dc.put
 generalize gM u.p s=P at *
 refine bR bE2 (ob0:=c.b) Tryz.func168 rfl rfl rfl ?_
 exact Wo5
end Go.Proofs.YtmhapcbjjpadnaaGreat
set_option maxRecDepth 40000
namespace Go.Proofs.YtmhapcbjjpadnaaGreat
open Go Go.Sk Go.RowKit
def lsR(c:Dc)(f off n i:Nat):List Ls:=(mY c.x f off n i).1.ls
theorem aLQ(c:Dc)(f off n:Nat):∀i,(mY c.x f off n i).1=⟨c.fl,c.fr,c.zo.map vD,c.gr,lsR c f off n i,c.ck,c.pt⟩
 |0=>rfl
 |k+1=>by
  have ih:=aLQ c f off n k
  unfold lsR
  rw [mY]
  split
  ·rename_i m u h
   dsimp only
   rw [ih];rfl
  ·exact ih
theorem aGH(c:Dc)(f off n:Nat):∀i,(lsR c f off n i).length=c.ls.length
 |0=>rfl
 |k+1=>by
  have ih:=aGH c f off n k
  unfold lsR at *
  rw [mY]
  split
  ·rename_i m u h
   show(List.set _ _ _).length=_
   rw [zA];exact ih
  ·exact ih
def aO8(c:Dc)(f off n:Nat):V:=match fK c f off (bY c f off n) false (cnt off (bY c f off n)) with
 |none=>.tup [.agg c.x.c,.str ⟨#[]⟩,.int .i64 4]
 |some []=>.tup [.agg (mY c.x f off (bY c f off n) (cnt off (bY c f off n))).1.c,.str (mY c.x f off (bY c f off n) (cnt off (bY c f off n))).2,.int .i64 0]
 |some (_::_)=>.tup [.agg c.x.c,.str ⟨#[]⟩,.int .i64 7]
noncomputable def R55:aHJ Tryz.prog Tryz.f55 [] 4:=⟨_,_,_,_,_,_,_,rfl,rfl,rfl⟩
set_option maxHeartbeats 8000000 in
theorem bJ8(c:Dc)(h:Ok c)(f off n:Nat)(hf:f<c.fl.length)(hb:off+n≤128):aQ Tryz.prog 55 [] [.agg c.c,.int .i64 (f:Int),.int .i64 (off:Int),.int .i64 (n:Int)] (aO8 c f off n) []:=by
 have k82:=aE6 c h
 rw [xb] at k82
 have k141:=aD7 c f hf
 have k161:=uL (off:Int) (n:Int)
 rw [sU hb] at k161
 have hgf:=mV hf
 have hs:=(h.file f hf).size
 obtain⟨k0,k1,k2,k3,hfc,-⟩:=Df.cells (h.file f hf).E
 rw [hfc] at hgf
 have hrd:max (min (n:Int) (((c.fl.getD f aK).size:Int)- (off:Int))) 0=((bY c f off n:Nat):Int):=by unfold bY;omega
 have hnl:bY c f off n≤n:=by unfold bY;omega
 have k52:=bGL c h f off (bY c f off n) hf (by omega) false
 generalize hq:aO8 c f off n=q
 unfold aO8 at hq
 have hcn:=jF (off:=off) (n:=bY c f off n) (by omega)
 cases hL:fK c f off (bY c f off n) false (cnt off (bY c f off n)) with
 |none=>
  rw [hL] at hq k52
  subst hq
  refine bD R55 (ob0:= []) aV Tryz.func55 rfl rfl rfl ?_
  exact eR
 |some L=>
  rw [hL] at hq k52
  cases L with
  |cons x L=>
   dsimp only at hq
   subst hq
   have hz:=uW hL
   refine bD R55 (ob0:= []) aV Tryz.func55 rfl rfl rfl ?_
   exact eR
  |nil=>
   dsimp only at hq
   have k162:=aD8 off (bY c f off n) (by omega)
   generalize bY c f off n=n2 at *
   refine bD R55 (ob0:= []) aV Tryz.func55 rfl rfl rfl ?_
   refine Wy ?_
   refine Lp (fun i:Nat=>i≤cnt off n2) (fun i=> [(72,.int .i64 (i:Int)),(9,.str (mY c.x f off n2 i).2)]) (fun i=> [(6,.row 3 (cN (lsR c f off n2 i)))]) (fun i=>cnt off n2-i) 0 (zC _) ?_ ?_
   ·exact Vr [some 0,some 1,some 2,some 3,some 4,some 5,some 6,some 7]
   intro i hi
   have hlr:=aGH c f off n2 i
   have hnr:=h.nr
   refine Wy ?_
   refine lP (fun b=>?_) (fun b=>?_)
   ·have b:i<cnt off n2:=by omega
    have hg:=qV off n2 (cnt off n2) i b
    obtain⟨m,u,hp⟩:=aAA hL i b
    have hz:=aAB hL i b m u hp
    have hpi:=fF b
    have hq2:=aDF b
    have k138:=h.f138s hf (by omega) hp
    obtain⟨q1,q2,q3,q4,q5⟩:=bI h hf hp
    have hu:=h.use m u q1 q2
    have hgu:=pH q1 q2
    have hsz:=hu.pg.size
    have k165:=bFB u.p hu.pg (aP (off/16+i) off n2).1 (aP (off/16+i) off n2).2 hpi.1 hz
    obtain⟨o1,o2,o3⟩:=aLR h.x f off n2 i
    have hst:mY c.x f off n2 (i+1)=((mY c.x f off n2 i).1.acc m u.ten,(mY c.x f off n2 i).2++u.p.b.extract (aP (off/16+i) off n2).1 ((aP (off/16+i) off n2).1+(aP (off/16+i) off n2).2)):=by rw [mY,show cC c.x f (off/16+i)=some (m,u) from hp]
    have hes:(u.p.b.extract (aP (off/16+i) off n2).1 ((aP (off/16+i) off n2).1+(aP (off/16+i) off n2).2)).size≤16:=by rw [ByteArray.size_extract];omega
    have hs1:lsR c f off n2 (i+1)=(lsR c f off n2 i).set u.ten (sG ((lsR c f off n2 i).getD u.ten l0) ((m+1:Nat):Int)).1:=by unfold lsR;rw [hst];rfl
    have hs2:(mY c.x f off n2 (i+1)).2=(mY c.x f off n2 i).2++u.p.b.extract (aP (off/16+i) off n2).1 ((aP (off/16+i) off n2).1+(aP (off/16+i) off n2).2):=by rw [hst]
    have k97:=bGR ⟨c.fl,c.fr,c.zo.map vD,c.gr,lsR c f off n2 i,c.ck,c.pt⟩ m u q1 q2 h.nr (by show u.ten< (lsR c f off n2 i).length;rw [hlr,h.nl];exact hu.ten) (by rw [aLQ] at o1;exact o1.smL _)
    unfold Dc.acc at k97
    dsimp only at k97
    rw [←hs1] at k97
    simp only [Dc.b,hlr,aGH] at k97
    generalize lsR c f off n2 i=l2 at *
    generalize(mY c.x f off n2 i).2=s2 at *
    refine Wy ?_
    refine Le (i+1) (hv:=?_)
    simp only [hs2]
    exact Vr [some 0,some 1,some 2,some 3,some 4,some 5,some 6,some 7]
   obtain rfl:i=cnt off n2:=by omega
   simp only [aLQ] at hq
   simp only [Dc.c] at hq
   subst hq
   exact eR
end Go.Proofs.YtmhapcbjjpadnaaGreat
