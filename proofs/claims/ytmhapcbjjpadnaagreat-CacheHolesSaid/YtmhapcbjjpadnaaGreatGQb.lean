/- Caches. -/
import Derived.Test.YtmhapcbjjpadnaaGreatGNb
import Derived.Test.YtmhapcbjjpadnaaGreatGFb
import Derived.Test.YtmhapcbjjpadnaaGreatXS5b
set_option linter.all false
set_option maxHeartbeats 8000000
set_option maxRecDepth 40000
open List renaming length_set→zA
open Nat renaming zero_le→zC
namespace Go.Proofs.YtmhapcbjjpadnaaGreat
open Go Go.Sk Go.RowKit
def aI9(off n k:Nat):List (List V):=(List.range k).map λi=> [.int .i64 ((off/16+i:Nat):Int),.int .i64 ((aO (off/16+i) off n).1:Int),.int .i64 ((aO (off/16+i) off n).2:Int)]
@[simp] theorem bK2 (off n k:Nat):(aI9 off n k).length=k:=by simp [aI9]
theorem aRS(off n k:Nat):aI9 off n (k+1)=aI9 off n k++ [[.int .i64 ((off/16+k:Nat):Int),.int .i64 ((aO (off/16+k) off n).1:Int),.int .i64 ((aO (off/16+k) off n).2:Int)]]:=by
 simp [aI9,List.range_succ]
theorem sJ(off n m k:Nat)(h:k<m):(aI9 off n m).getD k []=[.int .i64 ((off/16+k:Nat):Int),.int .i64 ((aO (off/16+k) off n).1:Int),.int .i64 ((aO (off/16+k) off n).2:Int)]:=by
 simp [aI9,List.getD_eq_getElem?_getD,h]
theorem aUL(off n:Int)(h:n<1\/gE off n=false):aM Tryz.prog 162 [] [.int .i64 off,.int .i64 n] (.lst 0 true []) []:=by
 have k65:=aVG off n h
 refine aK (ob0:= []) [] Tryz.func162 rfl rfl rfl rfl ?_
 refine Wy ?_
 refine Lp (λ_:Unit=>True) (λ_=> [(14,.int .i64 0),(5,.lst 0 true [])]) (λ_=> []) (λ_=>0) () trivial ?_ ?_
 ·exact Vr []
 intro _ _
 exact jR
theorem aEL(off n:Nat)(h2:off+n<=128):aM Tryz.prog 162 [] [.int .i64 (off:Int),.int .i64 (n:Int)] (.lst 3 false (aI9 off n (cnt off n))) []:=by
 have k65:=bCB off n h2
 have hc:=fK h2
 refine aK (ob0:= []) [] Tryz.func162 rfl rfl rfl rfl ?_
 refine Wy ?_
 refine Lp (λi:Nat=>i<=cnt off n) (λi=> [(14,.int .i64 (i:Int)),(5,.sl 0 0 i)]) (λi=> [(0,.row 3 (aI9 off n i))]) (λi=>cnt off n-i) 0 (zC _) ?_ ?_
 ·exact Vr [none]
 intro i hi
 refine Wy ?_
 refine fP (λb=>?_) (λb=>?_)
 ·have b:i<cnt off n:=by omega
  have hg:=tH (off/16) (cnt off n) i b
  have hp:=eY b
  have hq:=aC2 b
  have hst:=aRS off n i
  unfold aO at hst
  refine Wy ?_
  refine Le (i+1) (hv:=?_)
  simp only [hst]
  exact Vr [_]
 obtain rfl:i=cnt off n:=by omega
 exact jR
noncomputable def R52:Rsv Tryz.prog Tryz.f52 [] 5:=⟨_,_,rfl,rfl⟩
theorem bJM(c:Dc)(f off n:Int)(w:Bool)(h:eX c f off n=false):aM Tryz.prog 52 [] [.agg c.c,.int .i64 f,.int .i64 off,.int .i64 n,.bool w] (.tup [.lst 0 true [],.int .i64 2]) []:=by
 have k141:=aN4 c f
 have k161:=qZ off n
 unfold eX at h
 cases hd:decide (0<=f/\f< (c.fl.length:Int)) with
 |false=>
  rw [hd] at k141
  refine bE R52 (ob0:= []) Tryz.func52 rfl rfl rfl ?_
  exact jR
 |true=>
  rw [hd,cond_true] at h
  rw [hd] at k141
  rw [h] at k161
  refine bE R52 (ob0:= []) Tryz.func52 rfl rfl rfl ?_
  exact jR
theorem bEU(c:Dc)(h:Ok c)(f off n:Nat)(hf:f<c.fl.length)(hb:off+n<=128)(w:Bool):aM Tryz.prog 52 [] [.agg c.c,.int .i64 (f:Int),.int .i64 (off:Int),.int .i64 (n:Int),.bool w] (aLR (eR c f off n w (cnt off n))) []:=by
 have k141:=aGK c f hf
 have k161:=qZ (off:Int) (n:Int)
 have k162:=aEL off n hb
 rw [iN hb] at k161
 have hc:=fK hb
 generalize hq:aLR (eR c f off n w (cnt off n))=q
 refine bE R52 (ob0:= []) Tryz.func52 rfl rfl rfl ?_
 refine Wy ?_
 refine Lp (α:=Nat×List (Nat×Nat)) (λa=>a.1<=cnt off n/\eR c f off n w a.1=some a.2) (λa=> [(33,.int .i64 (a.1:Int)),(12,.sl 1 0 a.2.length)]) (λa=> [(1,.row 2 (nR a.2))]) (λa=>cnt off n-a.1) (0,[]) ⟨zC _,rfl⟩ ?_ ?_
 ·exact Vr [_,none]
 rintro ⟨i,L⟩ ⟨hi,hL⟩
 dsimp only at hi hL
 have hz:=lD hL
 refine Wy ?_
 refine fP (λb=>?_) (λb=>?_)
 ·have b:i<cnt off n:=by omega
  have hg:=sJ off n (cnt off n) i b
  cases hp:eA c f (off/16+i) with
  |none=>
   have e:eR c f off n w (i+1)=none:=by rw [eR,hL,hp]
   rw [aH7 e (show i+1<=cnt off n by omega)] at hq
   subst hq
   have k138:=h.f138n hf (by omega) hp
   exact jR
  |some x=>
   obtain⟨m,u⟩:=x
   have k138:=h.f138s hf (by omega) hp
   obtain⟨q1,q2,q3,q4,q5⟩:=bM h hf hp
   have k96:=h.use96 q1 q2
   have hu:=h.use m u q1 q2
   have k163:=aUM u.p hu.pg _ _ (eY b).1 w
   have hgu:=jB q1 q2
   have hnr:=h.nr
   have e:eR c f off n w (i+1)=some (bif fT u off n (off/16+i) w==0 then L else L++ [(m+1,fT u off n (off/16+i) w)]):=by rw [eR,hL,hp]
   have hw:kX u.p (aO (off/16+i) off n).1 (aO (off/16+i) off n).2 w=fT u off n (off/16+i) w:=rfl
   rw [hw] at k163
   generalize fT u off n (off/16+i) w=s at *
   refine Wy ?_
   refine aT6 (λd=>?_) (λd=>?_)
   ·rw [show(s==0)=false from beq_eq_false_iff_ne.2 (by omega),cond_false] at e
    refine Wy ?_
    refine Le (i+1,L++ [(m+1,s)]) (hI:=⟨b,e⟩) (hv:=?_)
    simp only [aGT]
    exact Vr [_,_]
   ·rw [show(s==0)=true from beq_iff_eq.2 (by omega),cond_true] at e
    refine Wy ?_
    refine Le (i+1,L) (hI:=⟨b,e⟩) (hv:=?_)
    exact Vr [_,_]
 obtain rfl:i=cnt off n:=by omega
 rw [hL] at hq
 subst hq
 exact jR
end Go.Proofs.YtmhapcbjjpadnaaGreat
namespace Go.Proofs.YtmhapcbjjpadnaaGreat
open Go Go.Sk Go.RowKit
noncomputable def R60:Rsv Tryz.prog Tryz.f60 [] 3:=⟨_,_,rfl,rfl⟩
theorem bJS(c:Dc)(f:Int)(e:Int)(hf:¬(0<=f/\f< (c.fl.length:Int))):aM Tryz.prog 60 [] [.agg c.c,.int .i64 f,.int .i64 e] (.tup [.int .i64 (-1),.int .i64 0]) []:=by
 have k141:=aN4 c f
 rw [decide_eq_false hf] at k141
 refine bE R60 (ob0:= []) Tryz.func60 rfl rfl rfl ?_
 exact jR
theorem bJR(c:Dc)(h:Ok c)(f:Nat)(e:Int)(hf:f<c.fl.length):aM Tryz.prog 60 [] [.agg c.c,.int .i64 (f:Int),.int .i64 e] (.tup [.int .i64 (uC (eZ (c.fl.getD f aP) e)).1,.int .i64 (uC (eZ (c.fl.getD f aP) e)).2]) []:=by
 have k141:=aGK c f hf
 have hgf:=iS hf
 have kf:=h.file f hf
 have hs:=kf.size
 have k145:=λhp=>bHJ (c.fl.getD f aP) kf.E ((c.fl.getD f aP).size/16) hp kf.blocks
 obtain⟨k0,k1,k2,k3,hfc,-⟩:=Df.cells kf.E
 rw [hfc] at hgf
 simp only [hfc] at k145
 generalize hq:uC (eZ (c.fl.getD f aP) e)=q
 unfold eZ at hq
 generalize c.fl.getD f aP=x at *
 by_cases h1:e<=(x.size:Int)
 ·rw [decide_eq_true h1] at hq
  subst hq
  by_cases h0:x.size/16<8
  ·have k145:=k145 h0
   refine bE R60 (ob0:= []) Tryz.func60 rfl rfl rfl ?_
   exact jR
  ·refine bE R60 (ob0:= []) Tryz.func60 rfl rfl rfl ?_
   exact jR
 rw [decide_eq_false h1,cond_false] at hq
 by_cases h2:x.size%16=0
 ·rw [beq_iff_eq.2 h2] at hq
  subst hq
  refine bE R60 (ob0:= []) Tryz.func60 rfl rfl rfl ?_
  exact jR
 rw [beq_eq_false_iff_ne.2 h2,cond_false] at hq
 have k145:=k145 (by omega)
 cases h3:lZ x.blocks (x.size/16) with
 |true=>
  rw [h3] at hq k145
  subst hq
  refine bE R60 (ob0:= []) Tryz.func60 rfl rfl rfl ?_
  exact jR
 |false=>
  rw [h3,cond_false] at hq
  rw [h3] at k145
  subst hq
  by_cases h8:x.size%16<8
  ·rw [decide_eq_true h8]
   have e8:x.size%16/8=0:=by omega
   refine bE R60 (ob0:= []) Tryz.func60 rfl rfl rfl ?_
   refine Wy ?_
   rw [e8]
   exact Lz
  ·rw [decide_eq_false h8]
   have e8:x.size%16/8=1:=by omega
   refine bE R60 (ob0:= []) Tryz.func60 rfl rfl rfl ?_
   refine Wy ?_
   rw [e8]
   exact Lz
def iE(c:Dc)(f:Nat)(e:Int):Int×Int×Int:=match eZ (c.fl.getD f aP) e with
 |none=>(0,0,0)
 |some (p,s)=>match eA c f p with
  |none=>(0,0,4)
  |some (m,u)=>bif jC false s u.p.v==0 then(((m+1:Nat):Int),(s:Int),0) else(0,0,7)
noncomputable def aX7:Rsv Tryz.prog Tryz.f166 [] 3:=⟨_,_,rfl,rfl⟩
theorem bB1(c:Dc)(h:Ok c)(f:Nat)(e:Int)(hf:f<c.fl.length):aM Tryz.prog 166 [] [.agg c.c,.int .i64 (f:Int),.int .i64 e] (.tup [.int .i64 (iE c f e).1,.int .i64 (iE c f e).2.1,.int .i64 (iE c f e).2.2]) []:=by
 have k60:=bJR c h f e hf
 generalize hq:iE c f e=q
 unfold iE at hq
 have hs:=(h.file f hf).size
 cases ht:eZ (c.fl.getD f aP) e with
 |none=>
  rw [ht] at hq k60
  subst hq
  refine bE aX7 (ob0:= []) Tryz.func166 rfl rfl rfl ?_
  exact jR
 |some x=>
  obtain⟨p,s⟩:=x
  rw [ht] at hq k60
  dsimp only [uC] at hq k60
  obtain⟨t1,t2,t3,t4,t5⟩:=mQ ht hs
  cases hp:eA c f p with
  |none=>
   have k138:=h.f138n hf (by omega) hp
   rw [hp] at hq
   subst hq
   refine bE aX7 (ob0:= []) Tryz.func166 rfl rfl rfl ?_
   exact jR
  |some x=>
   obtain⟨m,u⟩:=x
   have k138:=h.f138s hf (by omega) hp
   obtain⟨q1,q2,q3,q4,q5⟩:=bM h hf hp
   have hu:=h.use m u q1 q2
   have hgu:=jB q1 q2
   have hnr:=h.nr
   have hv:=hu.pg.v
   have hb:=dM (x:=s) (y:=u.p.v) (by omega) (by omega)
   rw [hp] at hq
   dsimp only at hq
   generalize jC false s u.p.v=y at *
   by_cases d:y=0
   ·rw [beq_iff_eq.2 d,cond_true] at hq
    subst hq
    refine bE aX7 (ob0:= []) Tryz.func166 rfl rfl rfl ?_
    exact jR
   ·rw [beq_eq_false_iff_ne.2 d,cond_false] at hq
    subst hq
    refine bE aX7 (ob0:= []) Tryz.func166 rfl rfl rfl ?_
    exact jR
noncomputable def bLG:Rsv Tryz.prog Tryz.f167 [] 4:=⟨_,_,rfl,rfl⟩
theorem bB2(c:Dc)(h:Ok c)(m:Nat)(u:Us)(h1:m<c.fr.length)(h2:c.fr.getD m none=some u)(off:Nat)(s:ByteArray)(hr:off+s.size<=16)(hn:kX u.p off s.size true=0):
 aM Tryz.prog 167 c.b [.ptr 0 0 0,.int .i64 ((m+1:Nat):Int),.int .i64 (off:Int),.str s] (.tup []) (c.put m (dQ u (dP u.p off s))).b:=by
 have hu:=h.use m u h1 h2
 have hnr:=h.nr
 have k147:=aBZ c m h1 h.nr
 have hgu:=jB h1 h2
 have k266:=bIA u.p hu.pg off s hr hn
 have hw:=lP hu.pg hr
 have hG:=h.goodS h1 h2 (u':=dQ u (dP u.p off s)) rfl hw hu.rd hu.wr
 have k267:=bBS (c.setU m (dQ u (dP u.p off s))) m (dQ u (dP u.p off s)) hG (by show(c.fr.set m _).length<=64;rw [zA];exact h.nr)
 have hset:(aV c.fr).set m (aU 9 u.c 2 (dP u.p off s).c)=aV (c.fr.set m (some (dQ u (dP u.p off s)))):=by
  unfold aV;rw [List.map_set];rfl
 have hb:(c.setU m (dQ u (dP u.p off s))).b=[.box [.sl 1 0 c.fl.length,.sl 2 0 c.fr.length,.lst 6 false (aQ c.zo),.lst 3 false (bC c.gr),.sl 3 0 c.ls.length,.sl 4 0 c.ck.length,.lst 5 false (aY c.pt)],.row 15 (bA c.fl),.row 9 (aV (c.fr.set m (some (dQ u (dP u.p off s))))),.row 3 (bW c.ls),.row 1 (aE c.ck)]:=by
  unfold Dc.b Dc.setU
  dsimp only
  rw [zA]
 rw [hb,<-hset] at k267
 unfold Dc.put
 generalize dP u.p off s=P at *
 refine bE bLG (ob0:=c.b) Tryz.func167 rfl rfl rfl ?_
 exact Wo5
noncomputable def bG4:Rsv Tryz.prog Tryz.f168 [] 3:=⟨_,_,rfl,rfl⟩
theorem aNG(c:Dc)(s:Int):aM Tryz.prog 168 c.b [.ptr 0 0 0,.int .i64 0,.int .i64 s] (.tup []) c.b:=by
 refine bE bG4 (ob0:=c.b) Tryz.func168 rfl rfl rfl ?_
 exact Wo5
theorem bB3(c:Dc)(h:Ok c)(m:Nat)(u:Us)(h1:m<c.fr.length)(h2:c.fr.getD m none=some u)(s:Nat)(hs:s<4):
 aM Tryz.prog 168 c.b [.ptr 0 0 0,.int .i64 ((m+1:Nat):Int),.int .i64 (s:Int)] (.tup []) (c.put m (dQ u (gR u.p s))).b:=by
 have hu:=h.use m u h1 h2
 have hnr:=h.nr
 have k147:=aBZ c m h1 h.nr
 have hgu:=jB h1 h2
 have k268:=bIB u.p hu.pg s hs
 have hw:=mO hu.pg hs
 have hG:=h.goodS h1 h2 (u':=dQ u (gR u.p s)) rfl hw hu.rd hu.wr
 have k267:=bBS (c.setU m (dQ u (gR u.p s))) m (dQ u (gR u.p s)) hG (by show(c.fr.set m _).length<=64;rw [zA];exact h.nr)
 have hset:(aV c.fr).set m (aU 9 u.c 2 (gR u.p s).c)=aV (c.fr.set m (some (dQ u (gR u.p s)))):=by
  unfold aV;rw [List.map_set];rfl
 have hb:(c.setU m (dQ u (gR u.p s))).b=[.box [.sl 1 0 c.fl.length,.sl 2 0 c.fr.length,.lst 6 false (aQ c.zo),.lst 3 false (bC c.gr),.sl 3 0 c.ls.length,.sl 4 0 c.ck.length,.lst 5 false (aY c.pt)],.row 15 (bA c.fl),.row 9 (aV (c.fr.set m (some (dQ u (gR u.p s))))),.row 3 (bW c.ls),.row 1 (aE c.ck)]:=by
  unfold Dc.b Dc.setU
  dsimp only
  rw [zA]
 rw [hb,<-hset] at k267
 unfold Dc.put
 generalize gR u.p s=P at *
 refine bE bG4 (ob0:=c.b) Tryz.func168 rfl rfl rfl ?_
 exact Wo5
end Go.Proofs.YtmhapcbjjpadnaaGreat
namespace Go.Proofs.YtmhapcbjjpadnaaGreat
open Go Go.Sk Go.RowKit
def lsR(c:Dc)(f off n i:Nat):List Ls:=(rJ c.x f off n i).1.ls
theorem aNQ(c:Dc)(f off n:Nat):∀i,(rJ c.x f off n i).1=⟨c.fl,c.fr,c.zo.map noZ,c.gr,lsR c f off n i,c.ck,c.pt⟩
 |0=>rfl
 |k+1=>by
  have ih:=aNQ c f off n k
  unfold lsR
  rw [rJ]
  split
  ·rename_i m u h
   dsimp only
   rw [ih];rfl
  ·exact ih
theorem aI0(c:Dc)(f off n:Nat):∀i,(lsR c f off n i).length=c.ls.length
 |0=>rfl
 |k+1=>by
  have ih:=aI0 c f off n k
  unfold lsR at *
  rw [rJ]
  split
  ·rename_i m u h
   show(List.set _ _ _).length=_
   rw [zA];exact ih
  ·exact ih
def aPU(c:Dc)(f off n:Nat):V:=match eR c f off (bS c f off n) false (cnt off (bS c f off n)) with
 |none=>.tup [.agg c.x.c,.str ⟨#[]⟩,.int .i64 4]
 |some []=>.tup [.agg (rJ c.x f off (bS c f off n) (cnt off (bS c f off n))).1.c,.str (rJ c.x f off (bS c f off n) (cnt off (bS c f off n))).2,.int .i64 0]
 |some (_::_)=>.tup [.agg c.x.c,.str ⟨#[]⟩,.int .i64 7]
noncomputable def R55:aJ9 Tryz.prog Tryz.f55 [] 4:=⟨_,_,_,_,_,_,_,rfl,rfl,rfl⟩
theorem bJO(c:Dc)(h:Ok c)(f off n:Int)(hh:eX c f off n=false):aM Tryz.prog 55 [] [.agg c.c,.int .i64 f,.int .i64 off,.int .i64 n] (.tup [.agg c.x.c,.str ⟨#[]⟩,.int .i64 2]) []:=by
 have k82:=aRQ c h
 have k141:=aN4 c f
 have k161:=qZ off n
 unfold eX at hh
 cases hd:decide (0<=f/\f< (c.fl.length:Int)) with
 |false=>
  rw [hd] at k141
  refine dF R55 (ob0:= []) cE Tryz.func55 rfl rfl rfl ?_
  exact jR
 |true=>
  rw [hd,cond_true] at hh
  rw [hd] at k141
  rw [hh] at k161
  refine dF R55 (ob0:= []) cE Tryz.func55 rfl rfl rfl ?_
  exact jR
theorem bMH(c:Dc)(h:Ok c)(f off n:Nat)(hf:f<c.fl.length)(hb:off+n<=128):aM Tryz.prog 55 [] [.agg c.c,.int .i64 (f:Int),.int .i64 (off:Int),.int .i64 (n:Int)] (aPU c f off n) []:=by
 have k82:=aRQ c h
 rw [xb] at k82
 have k141:=aGK c f hf
 have k161:=qZ (off:Int) (n:Int)
 rw [iN hb] at k161
 have hgf:=iS hf
 have hs:=(h.file f hf).size
 obtain⟨k0,k1,k2,k3,hfc,-⟩:=Df.cells (h.file f hf).E
 rw [hfc] at hgf
 have hrd:max (min (n:Int) (((c.fl.getD f aP).size:Int)- (off:Int))) 0=((bS c f off n:Nat):Int):=by unfold bS;omega
 have hnl:bS c f off n<=n:=by unfold bS;omega
 have k52:=bEU c h f off (bS c f off n) hf (by omega) false
 generalize hq:aPU c f off n=q
 unfold aPU at hq
 have hcn:=fK (off:=off) (n:=bS c f off n) (by omega)
 cases hL:eR c f off (bS c f off n) false (cnt off (bS c f off n)) with
 |none=>
  rw [hL] at hq k52
  subst hq
  refine dF R55 (ob0:= []) cE Tryz.func55 rfl rfl rfl ?_
  exact jR
 |some L=>
  rw [hL] at hq k52
  cases L with
  |cons x L=>
   dsimp only at hq
   subst hq
   have hz:=lD hL
   refine dF R55 (ob0:= []) cE Tryz.func55 rfl rfl rfl ?_
   exact jR
  |nil=>
   dsimp only at hq
   have k162:=aEL off (bS c f off n) (by omega)
   generalize bS c f off n=n2 at *
   refine dF R55 (ob0:= []) cE Tryz.func55 rfl rfl rfl ?_
   refine Wy ?_
   refine Lp (λi:Nat=>i<=cnt off n2) (λi=> [(72,.int .i64 (i:Int)),(9,.str (rJ c.x f off n2 i).2)]) (λi=> [(6,.row 3 (bW (lsR c f off n2 i)))]) (λi=>cnt off n2-i) 0 (zC _) ?_ ?_
   ·exact Vr [some 0,some 1,some 2,some 3,some 4,some 5,some 6,some 7]
   intro i hi
   have hlr:=aI0 c f off n2 i
   have hnr:=h.nr
   refine Wy ?_
   refine fP (λb=>?_) (λb=>?_)
   ·have b:i<cnt off n2:=by omega
    have hg:=sJ off n2 (cnt off n2) i b
    obtain⟨m,u,hp⟩:=pS hL i b
    have hz:=tO hL i b m u hp
    have hpi:=eY b
    have hq2:=aC2 b
    have k138:=h.f138s hf (by omega) hp
    obtain⟨q1,q2,q3,q4,q5⟩:=bM h hf hp
    have hu:=h.use m u q1 q2
    have hgu:=jB q1 q2
    have hsz:=hu.pg.size
    have k165:=bHO u.p hu.pg (aO (off/16+i) off n2).1 (aO (off/16+i) off n2).2 hpi.1 hz
    obtain⟨o1,o2,o3⟩:=aIE h.x f off n2 i
    have hst:rJ c.x f off n2 (i+1)=((rJ c.x f off n2 i).1.acc m u.ten,(rJ c.x f off n2 i).2++u.p.b.extract (aO (off/16+i) off n2).1 ((aO (off/16+i) off n2).1+(aO (off/16+i) off n2).2)):=by rw [rJ,show eA c.x f (off/16+i)=some (m,u) from hp]
    have hes:(u.p.b.extract (aO (off/16+i) off n2).1 ((aO (off/16+i) off n2).1+(aO (off/16+i) off n2).2)).size<=16:=by rw [ByteArray.size_extract];omega
    have hs1:lsR c f off n2 (i+1)=(lsR c f off n2 i).set u.ten (mW ((lsR c f off n2 i).getD u.ten l0) ((m+1:Nat):Int)).1:=by unfold lsR;rw [hst];rfl
    have hs2:(rJ c.x f off n2 (i+1)).2=(rJ c.x f off n2 i).2++u.p.b.extract (aO (off/16+i) off n2).1 ((aO (off/16+i) off n2).1+(aO (off/16+i) off n2).2):=by rw [hst]
    have k97:=bJZ ⟨c.fl,c.fr,c.zo.map noZ,c.gr,lsR c f off n2 i,c.ck,c.pt⟩ m u q1 q2 h.nr (by show u.ten< (lsR c f off n2 i).length;rw [hlr,h.nl];exact hu.ten) (by rw [aNQ] at o1;exact o1.smL _)
    unfold Dc.acc at k97
    dsimp only at k97
    rw [<-hs1] at k97
    simp only [Dc.b,hlr,aI0] at k97
    generalize lsR c f off n2 i=l2 at *
    generalize(rJ c.x f off n2 i).2=s2 at *
    refine Wy ?_
    refine Le (i+1) (hv:=?_)
    simp only [hs2]
    exact Vr [some 0,some 1,some 2,some 3,some 4,some 5,some 6,some 7]
   obtain rfl:i=cnt off n2:=by omega
   simp only [aNQ] at hq
   simp only [Dc.c] at hq
   subst hq
   exact jR
end Go.Proofs.YtmhapcbjjpadnaaGreat
