/- Caches. -/
import Derived.Test.YtmhapcbjjpadnaaGreatGOm
import Derived.Test.YtmhapcbjjpadnaaGreatGSm
import Derived.Test.YtmhapcbjjpadnaaGreatGMm
import Derived.Test.YtmhapcbjjpadnaaGreatGHm
import Derived.Test.YtmhapcbjjpadnaaGreatK8m
set_option linter.unusedSimpArgs false
set_option linter.unusedVariables false
open List renaming length_set→zA,getElem_mem→zC,set_set→zE
open Nat renaming zero_lt_succ→zD
set_option linter.constructorNameAsVariable false
set_option maxRecDepth 40000
namespace Go.Proofs.YtmhapcbjjpadnaaGreat
open Go Go.Sk Go.RowKit
theorem aN2(z:Zn)(f:Int):fH (aIF z f)=fH (aIF (fH z) f):=rfl
theorem aES {a b:List Zn} (s:eX a b)(h:bH b=true)(f:Int):eX (eB (a.map fH) a f).1 (eB b b f).1:=by
 have hc:bH a=true:=by rw [s.check];exact h
 have k1:=rL (base:=a.map fH) (f:=f) hc
 have k2:=rL (base:=b) (f:=f) h
 have hb:eX (a.map fH) b:=(eX.ex _).trans s
 have hlen:=s.len
 have hgt:=fun i hi=>s.get i hi
 have hcl:=((dH b).1 h).1
 generalize eB (a.map fH) a f=q1 at *
 generalize eB b b f=q2 at *
 have uniq:∀i j (hi:i<b.length) (hj:j<b.length),b[i].first≤f∧f<b[i].first+b[i].size→b[j].first≤f∧f<b[j].first+b[j].size→i=j:=fun i j hi hj x y=>by
  rcases Nat.lt_trichotomy i j with e |e |e
  ·have :=hcl.sep i j hi hj e;omega
  ·exact e
  ·have :=hcl.sep j i hj hi e;omega
 have ex3:∀ {x y:Zn},fH x=fH y→x.first=y.first∧x.size=y.size∧x.free=y.free:=fun {x y} e=>by
  unfold fH at e
  rw [Zn.mk.injEq] at e
  exact⟨e.1,e.2.1,e.2.2.2.2.2.1⟩
 cases k1 with
 |range w=>
  cases k2 with
  |range _=>exact hb
  |free i hi hf hm=>
   obtain⟨e1,e2,e3⟩:=ex3 (hgt i (by omega))
   exact absurd hf (by rw [←e1,←e2];exact w _ (zC _))
  |ok i hi hf hm=>
   obtain⟨e1,e2,e3⟩:=ex3 (hgt i (by omega))
   exact absurd hf (by rw [←e1,←e2];exact w _ (zC _))
 |free i hi hf hm=>
  obtain⟨e1,e2,e3⟩:=ex3 (hgt i hi)
  rw [e1,e2] at hf
  rw [e3] at hm
  cases k2 with
  |range w=>exact absurd hf (w _ (zC _))
  |free _ _ _ _=>exact hb
  |ok j hj hf2 hm2=>
   have :=uniq i j (by omega) hj hf hf2
   subst this
   exact absurd hm hm2
 |ok i hi hf hm=>
  have e0:=hgt i hi
  obtain⟨e1,e2,e3⟩:=ex3 e0
  rw [e1,e2] at hf
  rw [e3] at hm
  cases k2 with
  |range w=>exact absurd hf (w _ (zC _))
  |free j hj hf2 hm2=>
   have :=uniq i j (by omega) hj hf hf2
   subst this
   exact absurd hm2 hm
  |ok j hj hf2 hm2=>
   have :=uniq i j (by omega) hj hf hf2
   subst this
   exact hb.set i (by rw [aN2,e0,←aN2])
theorem kI.refl(a:Dc):kI a a:=⟨rfl,rfl,rfl,rfl,rfl,rfl,rfl⟩
theorem kI.ok {a b:Dc} (s:kI a b)(h:Ok b):Ok a:=by
 obtain⟨fl,fr,za,gr,ls,ck,pt⟩:=a
 obtain⟨fl2,fr2,zb,gr2,ls2,ck2,pt2⟩:=b
 obtain⟨e1,e2,e3,e4,e5,e6,e7⟩:=s
 dsimp only at e1 e2 e3 e4 e5 e6 e7
 subst e1 e2 e4 e5 e6 e7
 refine⟨h.nf,h.nr,h.ng,h.nl,h.nk,h.file,fun n u hn hu=>?_,h.ent,by rw [show bH za=bH zb from e3.check];exact h.zone,fun z hz x hx=>?_,h.gr,h.ls,h.mem,h.ck,h.pt⟩
 ·have k:=h.use n u hn hu
  exact⟨k.file,k.page,k.pg,k.ten,k.holds,k.rd,k.wr,k.val⟩
 ·have hm:fH z∈za.map fH:=List.mem_map_of_mem hz
  rw [show za.map fH=zb.map fH from e3] at hm
  obtain⟨w,hw,e⟩:=List.mem_map.1 hm
  have e:w.free=z.free:=by
   unfold fH at e
   rw [Zn.mk.injEq] at e
   exact e.2.2.2.2.2.1
  exact h.free w hw x (by rw [e];exact hx)
theorem Ok.goneP {c:Dc} (h:Ok c) {n:Nat} {u:Us} (hn:n<c.fr.length)(hu:c.fr.getD n none=some u) {v:Int} (hv:v≤0)(hv2: -1000001≤v):Ok (c.goneP n u v):=
 kI.ok (b:=c.gone n u v) ⟨rfl,rfl,aES (eX.refl _) h.zone _,rfl,rfl,rfl,rfl⟩ (h.gone hn hu hv hv2)
def aV0(c:Dc)(f off n p:Nat):Dc:=bif pW c f off n p then(match cC c f p with |some x=>((c.bl f p).goneP x.1 x.2 0).e0 f p |none=>(c.bl f p).e0 f p) else
 match cC c f p with |some x=>c.put x.1 (cD x.2 (dX x.2.p (aP p off n).1 (zB (aP p off n).2)))|none=>c
def jP(c:Dc)(f off n:Nat):Nat→Dc
 |0=>c
 |k+1=>aV0 (jP c f off n k) f off n (off/16+k)
theorem aM0(E:cI)(p:Nat)(v:Int×Nat):dA (dA E p v) p v=dA E p v:=by
 funext j
 by_cases e:j=p
 ·subst e;rw [cR,cR]
 ·rw [cW e]
theorem aV1 {a b:Dc} (s:kI a b)(h:Ok b) {f off n p:Nat} (hf:f<b.fl.length):kI (aV0 a f off n p) (sH b f off n p):=by
 obtain⟨fl,fr,za,gr,ls,ck,pt⟩:=a
 obtain⟨fl2,fr2,zb,gr2,ls2,ck2,pt2⟩:=b
 obtain⟨e1,e2,e3,e4,e5,e6,e7⟩:=s
 dsimp only at e1 e2 e3 e4 e5 e6 e7
 subst e1 e2 e4 e5 e6 e7
 have hf:f<fl.length:=hf
 have gs:∀x,(fl.set f x).getD f aK=x:=fun x=>aD fl f x aK hf
 unfold aV0 sH
 rw [show pW ⟨fl,fr,za,gr,ls,ck,pt⟩ f off n p=pW ⟨fl,fr,zb,gr,ls,ck,pt⟩ f off n p from rfl,show cC ⟨fl,fr,za,gr,ls,ck,pt⟩ f p=cC ⟨fl,fr,zb,gr,ls,ck,pt⟩ f p from rfl]
 cases pW ⟨fl,fr,zb,gr,ls,ck,pt⟩ f off n p with
 |true=>
  rw [cond_true,cond_true]
  cases hp:cC ⟨fl,fr,zb,gr,ls,ck,pt⟩ f p with
  |none=>
   refine⟨?_,rfl,e3,rfl,rfl,rfl,rfl⟩
   unfold Dc.bl Dc.e0
   dsimp only
   rw [gs,gs,zE,zE]
   rfl
  |some x=>
   obtain⟨m,u⟩:=x
   obtain⟨q1,q2,q3,q4,q5⟩:=bI h hf hp
   subst q3 q4
   refine⟨?_,rfl,aES e3 h.zone _,rfl,rfl,rfl,rfl⟩
   unfold Dc.bl Dc.e0 Dc.goneP Dc.gone
   dsimp only
   simp only [zE,gs]
   rw [dK,aM0]
   rfl
 |false=>
  rw [cond_false,cond_false]
  cases hp:cC ⟨fl,fr,zb,gr,ls,ck,pt⟩ f p with
  |none=>exact⟨rfl,rfl,e3,rfl,rfl,rfl,rfl⟩
  |some x=>exact⟨rfl,rfl,e3,rfl,rfl,rfl,rfl⟩
theorem vA {a b:Dc} (s:kI a b)(h:Ok b) {f off n:Nat} (hf:f<b.fl.length)(hb:off+n≤128):∀k,k≤cnt off n→kI (jP a f off n k) (pY b f off n k)
 |0,_=>s
 |k+1,hk=>by
  have ih:=vA s h hf hb k (by omega)
  obtain⟨o1,o2,o3,o4⟩:=jU h hf hb k (by omega)
  exact aV1 ih o1 (by rw [o2];exact hf)
theorem kI.pg {a b:Dc} (s:kI a b)(f p:Nat):cC a f p=cC b f p:=by unfold cC;rw [s.fl,s.fr]
theorem aOQ {c:Dc} (h:Ok c) {f off n:Nat} (hf:f<c.fl.length)(hb:off+n≤128)(k:Nat)(hk:k≤cnt off n):Ok (jP c f off n k)∧(jP c f off n k).fl.length=c.fl.length∧((jP c f off n k).fl.getD f aK).size=(c.fl.getD f aK).size∧∀i,k≤i→cC (jP c f off n k) f (off/16+i)=cC c f (off/16+i):=by
 have s:=vA (kI.refl c) h hf hb k hk
 obtain⟨o1,o2,o3,o4⟩:=jU h hf hb k hk
 exact⟨s.ok o1,by rw [s.fl];exact o2,by rw [s.fl];exact o3,fun i hi=>(s.pg _ _).trans (o4 i hi)⟩
end Go.Proofs.YtmhapcbjjpadnaaGreat
set_option maxRecDepth 40000
namespace Go.Proofs.YtmhapcbjjpadnaaGreat
open Go Go.Sk Go.RowKit
noncomputable def bI1:Rsv Tryz.prog Tryz.f141 [] 2:=⟨_,_,rfl,rfl⟩
theorem bC9(c:Dc)(f:Nat)(hf:f<c.fl.length):aQ Tryz.prog 141 c.ob2 [.agg c.o2,.int .i64 (f:Int)] (.bool true) c.ob2:=by
 refine bR bI1 (ob0:=c.ob2) Tryz.func141 rfl rfl rfl ?_
 exact Wo4
noncomputable def bE1:Rsv Tryz.prog Tryz.f138 [] 3:=⟨_,_,rfl,rfl⟩
set_option maxHeartbeats 2000000 in
theorem bC8(c:Dc)(h:Ok c)(f p:Nat)(hf:f<c.fl.length)(hp:p<16):aQ Tryz.prog 138 c.ob2 [.agg c.o2,.int .i64 (f:Int),.int .i64 (p:Int)] (.tup [.int .i64 (sB c f p),.bool (decide (sB c f p>0))]) c.ob2:=by
 have k141:=bC9 c f hf
 have kf:=h.file f hf
 have k143:=aT2 kf.E kf.sup p hp
 have hgf:=mV hf
 obtain⟨k0,k1,k2,k3,hfc,hcan⟩:=Df.cells kf.E
 rw [hfc] at hgf
 rw [hcan] at k143
 have hv:max ((c.fl.getD f aK).E p).1 0=sB c f p:=by
  unfold sB
  cases e:cC c f p with
  |none=>have :=uP h hf e;dsimp only;omega
  |some x=>
   have :=(bI h hf (n:=x.1) (u:=x.2) e).2.2.2.2
   dsimp only;omega
 have hlo:=kf.lo p
 have hhi:((c.fl.getD f aK).E p).1≤64:=by
  by_cases e:0< ((c.fl.getD f aK).E p).1
  ·obtain⟨n,u,a1,a2,-⟩:=h.ent f p hf e
   have :=h.nr
   omega
  ·omega
 generalize sB c f p=r at *
 generalize((c.fl.getD f aK).E p).1=v at *
 subst hv
 by_cases hv:0<v
 ·rw [show max v 0=v by omega,decide_eq_true hv]
  refine bR bE1 (ob0:=c.ob2) Tryz.func138 rfl rfl rfl ?_
  exact Wo4
 ·rw [show max v 0=0 by omega,decide_eq_false (by omega)]
  refine bR bE1 (ob0:=c.ob2) Tryz.func138 rfl rfl rfl ?_
  exact Wo4
noncomputable def R96:Rsv Tryz.prog Tryz.f96 [] 2:=⟨_,_,rfl,rfl⟩
set_option maxHeartbeats 2000000 in
theorem bGQ(c:Dc)(h:Ok c):aQ Tryz.prog 96 c.ob2 [.agg c.o2,.int .i64 0] (.bool false) c.ob2:=by
 rcases aFG c.fr 0 with h2 | ⟨o,h2⟩
 ·refine bR R96 (ob0:=c.ob2) Tryz.func96 rfl rfl rfl ?_
  exact Wo4
 ·cases o with
  |none=>
   have h2:(bE c.fr).getD 0 []=fre.c:=h2
   refine bR R96 (ob0:=c.ob2) Tryz.func96 rfl rfl rfl ?_
   exact Wo4
  |some u=>
   have h2:(bE c.fr).getD 0 []=u.c:=h2
   refine bR R96 (ob0:=c.ob2) Tryz.func96 rfl rfl rfl ?_
   exact Wo4
set_option maxHeartbeats 2000000 in
theorem bGP(c:Dc)(h:Ok c)(m:Nat)(u:Us)(h1:m<c.fr.length)(h2:c.fr.getD m none=some u):aQ Tryz.prog 96 c.ob2 [.agg c.o2,.int .i64 ((m+1:Nat):Int)] (.bool true) c.ob2:=by
 have hgu:=pH h1 h2
 have hnr:=h.nr
 refine bR R96 (ob0:=c.ob2) Tryz.func96 rfl rfl rfl ?_
 exact Wo4
theorem aWM {c:Dc} (h:Ok c) {f p:Nat} (hf:f<c.fl.length)(hp:p<16):∃b:Bool,aQ Tryz.prog 138 c.ob2 [.agg c.o2,.int .i64 (f:Int),.int .i64 (p:Int)] (.tup [.int .i64 (sB c f p),.bool b]) c.ob2∧aQ Tryz.prog 96 c.ob2 [.agg c.o2,.int .i64 (sB c f p)] (.bool b) c.ob2∧(b=false→sB c f p=0):=by
 have k:=bC8 c h f p hf hp
 cases e:cC c f p with
 |none=>
  have e2:sB c f p=0:=by unfold sB;rw [e]
  rw [e2] at k⊢
  exact⟨false,k,bGQ c h,fun _=>rfl⟩
 |some x=>
  obtain⟨m,u⟩:=x
  have e2:sB c f p=((m+1:Nat):Int):=by unfold sB;rw [e]
  rw [e2,decide_eq_true (show((m+1:Nat):Int)>0 by omega)] at k
  rw [e2]
  obtain⟨q1,q2,q3,q4,q5⟩:=bI h hf e
  exact⟨true,k,bGP c h m u q1 q2,fun x=>by cases x⟩
set_option maxHeartbeats 4000000 in
theorem bCC(c:Dc)(h:Ok c)(f off n:Nat)(hf:f<c.fl.length)(hb:off+n≤128):aQ Tryz.prog 170 c.ob2 [.agg c.o2,.int .i64 (f:Int),.int .i64 (off:Int),.int .i64 (n:Int)] (.lst 5 false (aCC c f off (bY c f off n) (cnt off (bY c f off n)))) c.ob2:=by
 have hgf:=mV hf
 have hs:=(h.file f hf).size
 obtain⟨k0,k1,k2,k3,hfc,-⟩:=Df.cells (h.file f hf).E
 rw [hfc] at hgf
 by_cases ho:off≤(c.fl.getD f aK).size
 ·have hrd:min (n:Int) (((c.fl.getD f aK).size:Int)- (off:Int))=((bY c f off n:Nat):Int):=by unfold bY;omega
  have hnl:bY c f off n≤n:=by unfold bY;omega
  have k162:=aD8 off (bY c f off n) (by omega)
  have hcn:=jF (off:=off) (n:=bY c f off n) (by omega)
  generalize bY c f off n=n2 at *
  refine bR aVM (ob0:=c.ob2) Tryz.func170 rfl rfl rfl ?_
  refine Wy ?_
  refine Lp (fun i:Nat=>i≤cnt off n2) (fun i=> [(30,.int .i64 (i:Int)),(10,.sl 5 0 i)]) (fun i=> [(5,.row 5 (aCC c f off n2 i))]) (fun i=>cnt off n2-i) 0 (Nat.zero_le _) ?_ ?_
  ·exact Vr [some 0,some 1,some 2,some 3,_,none]
  intro i hi
  refine Wy ?_
  refine lP (fun b=>?_) (fun b=>?_)
  ·have b:i<cnt off n2:=by omega
   have hg:=qV off n2 (cnt off n2) i b
   have hpi:=fF b
   have hq2:=aDF b
   have hst:=aEJ c f off n2 i
   have hw:=aEW c f off n2 (off/16+i)
   obtain⟨y,k138,k96,hy⟩:=aWM h hf (show off/16+i<16 by omega)
   generalize sB c f (off/16+i)=v at *
   generalize(aP (off/16+i) off n2).1=a1 at *
   generalize(aP (off/16+i) off n2).2=a2 at *
   generalize(c.fl.getD f aK).size=z at *
   rcases hw with ⟨w1,w2,w3⟩| ⟨w1,w2⟩| ⟨w1,w2,w3⟩
   all_goals
    rw [w1] at hst
    cases y with
    |true=>
     clear hy
     refine Wy ?_
     refine Le (i+1) (hv:=?_)
     simp only [hst]
     exact Vr [some 0,some 1,some 2,some 3,_,_]
    |false=>
     obtain rfl:=hy rfl
     refine Wy ?_
     refine Le (i+1) (hv:=?_)
     simp only [hst]
     exact Vr [some 0,some 1,some 2,some 3,_,_]
  obtain rfl:i=cnt off n2:=by omega
  exact Wo4
 ·have hrd:bY c f off n=0:=by unfold bY;omega
  have k162:=aT7 (off:Int) (min (n:Int) (((c.fl.getD f aK).size:Int)- (off:Int))) (.inl (by omega))
  rw [hrd]
  refine aQ.le (res:=.lst 0 true []) ?_ (kF.refl _) tN.nils (lO.refl _)
  generalize(c.fl.getD f aK).size=z at *
  refine bR aVM (ob0:=c.ob2) Tryz.func170 rfl rfl rfl ?_
  refine Wy ?_
  refine Lp (fun _:Unit=>True) (fun _=> [(30,.int .i64 0),(10,.lst 0 true [])]) (fun _=> []) (fun _=>0) () trivial ?_ ?_
  ·exact Vr [some 0,some 1,some 2,some 3,_]
  intro _ _
  exact Wo4
theorem bIE(c:Dc)(h:Ok c) {f p:Nat} (hf:f<c.fl.length):(c.bl f p).b=[.box [.sl 1 0 c.fl.length,.sl 2 0 c.fr.length,.lst 6 false (aW c.zo),.lst 3 false (bP c.gr),.sl 3 0 c.ls.length,.sl 4 0 c.ck.length,.lst 5 false (bQ c.pt)],.row 15 ((bG c.fl).set f (aR 15 (c.fl.getD f aK).c 7 [.int .i64 ((qT (c.fl.getD f aK).blocks p:Nat):Int)])),.row 9 (bE c.fr),.row 3 (cN c.ls),.row 1 (aJ c.ck)]:=by
 rw [←aU1 (b:=qT (c.fl.getD f aK).blocks p) hf (h.file f hf).E]
 unfold Dc.b Dc.bl
 dsimp only
 rw [zA]
theorem bIF {d:Dc} (h:Ok d) {f p:Nat} (hf:f<d.fl.length) {lit cl:List V} (e1:(d.fl.getD f aK).c=lit)(e2:can (dA (d.fl.getD f aK).E p (0,0))=cl):bG ((d.bl f p).e0 f p).fl=((bG d.fl).set f (aR 15 lit 7 [.int .i64 ((qT (d.fl.getD f aK).blocks p:Nat):Int)])).set f (aR 15 (aR 15 lit 7 [.int .i64 ((qT (d.fl.getD f aK).blocks p:Nat):Int)]) 2 cl):=by
 subst e1 e2
 have kf:=h.file f hf
 have hl:f< (d.bl f p).fl.length:=by show f< (List.set _ _ _).length;rw [zA];exact hf
 have hx:(d.bl f p).fl.getD f aK=fbl (d.fl.getD f aK) (qT (d.fl.getD f aK).blocks p):=aD _ _ _ _ hf
 have h1:=rS (d.bl f p).fl f (dA (d.fl.getD f aK).E p (0,0)) hl (by rw [hx];exact kf.E) (kf.E.set (zD _) (fun _=>rfl))
 have h2:bG (d.bl f p).fl=(bG d.fl).set f (aR 15 (d.fl.getD f aK).c 7 [.int .i64 ((qT (d.fl.getD f aK).blocks p:Nat):Int)]):=aU1 hf kf.E
 rw [h2,aD _ _ _ _ (by rw [bV];exact hf)] at h1
 rw [h1]
 show bG ((d.bl f p).fl.set f (dG ((d.bl f p).fl.getD f aK) (dA ((d.bl f p).fl.getD f aK).E p (0,0))))=_
 rw [hx];rfl
theorem bBD {d:Dc} (h:Ok d) {f p:Nat} (hf:f<d.fl.length) {lit cl:List V} (e1:(d.fl.getD f aK).c=lit)(e2:can (dA (d.fl.getD f aK).E p (0,0))=cl):bG (d.e0 f p).fl=(bG d.fl).set f (aR 15 lit 2 cl):=by
 subst e1 e2
 have kf:=h.file f hf
 have h1:=rS d.fl f (dA (d.fl.getD f aK).E p (0,0)) hf kf.E (kf.E.set (zD _) (fun _=>rfl))
 rw [iE d.fl f hf] at h1
 exact h1.symm
theorem aRV(d:Dc)(f p:Nat):(d.e0 f p).fl.length=d.fl.length:=zA ..
noncomputable def bI3:Rsv Tryz.prog Tryz.f172 [] 4:=⟨_,_,rfl,rfl⟩
set_option maxHeartbeats 16000000 in
theorem aZP(c:Dc)(h:Ok c)(f off n:Nat)(hf:f<c.fl.length)(hb:off+n≤128)(hm:(eI c f off (bY c f off n) (cnt off (bY c f off n))).2.2=true):aQ Tryz.prog 172 c.b [.ptr 0 0 0,.int .i64 (f:Int),.int .i64 (off:Int),.int .i64 (n:Int)] (.tup []) (jP c f off (bY c f off n) (cnt off (bY c f off n))).b:=by
 have k170:=bCC c h f off n hf hb
 have hnl:bY c f off n≤n:=by unfold bY;omega
 have hcn:=jF (off:=off) (n:=bY c f off n) (by omega)
 have hmay:=aC9 hm
 generalize bY c f off n=n2 at *
 have hb2:off+n2≤128:=by omega
 refine bR bI3 (ob0:=c.b) Tryz.func172 rfl rfl rfl ?_
 refine Wy ?_
 refine Lp (fun i:Nat=>i≤cnt off n2) (fun i=> [(19,.int .i64 (i:Int))]) (fun i=> [(0,.box [.sl 1 0 (jP c f off n2 i).fl.length,.sl 2 0 (jP c f off n2 i).fr.length,.lst 6 false (aW (jP c f off n2 i).zo),.lst 3 false (bP (jP c f off n2 i).gr),.sl 3 0 (jP c f off n2 i).ls.length,.sl 4 0 (jP c f off n2 i).ck.length,.lst 5 false (bQ (jP c f off n2 i).pt)]),(1,.row 15 (bG (jP c f off n2 i).fl)),(2,.row 9 (bE (jP c f off n2 i).fr)),(3,.row 3 (cN (jP c f off n2 i).ls)),(4,.row 1 (aJ (jP c f off n2 i).ck))]) (fun i=>cnt off n2-i) 0 (Nat.zero_le _) ?_ ?_
 ·exact Vr [some 0,some 1,some 2,some 3,some 4]
 intro i hi
 refine Wy ?_
 refine lP (fun b=>?_) (fun b=>?_)
 ·have b:i<cnt off n2:=by omega
  have hg:=aHW c f off n2 (cnt off n2) i b
  have hpi:=fF b
  obtain⟨o1,o2,o3,o4⟩:=aOQ h hf hb2 i hi
  have hp0:=o4 i (Nat.le_refl i)
  have hmi:=hmay i b
  have hst:jP c f off n2 (i+1)=aV0 (jP c f off n2 i) f off n2 (off/16+i):=rfl
  unfold aV0 at hst
  rw [aIN o3] at hst
  have hfr:sB c f (off/16+i)=sB (jP c f off n2 i) f (off/16+i):=by unfold sB;rw [hp0]
  rw [hfr] at hg
  clear hfr
  generalize hd:jP c f off n2 i=d at *
  have hf1:f<d.fl.length:=by rw [o2];exact hf
  have hnr:=o1.nr
  have hp8:off/16+i<8:=by omega
  have h2p:2^(off/16+i)<2^8:=Nat.pow_lt_pow_right (by omega) (by omega)
  cases hw:pW c f off n2 (off/16+i) with
  |false=>
   rw [hw] at hg hst
   rw [cond_false] at hst
   obtain⟨m,u,hp,hz⟩:=aIU hmi hw
   rw [←hp0] at hp
   rw [hp] at hst
   dsimp only at hst
   have hfe:sB d f (off/16+i)=((m+1:Nat):Int):=by unfold sB;rw [hp]
   rw [hfe] at hg
   obtain⟨q1,q2,q3,q4,q5⟩:=bI o1 hf1 hp
   have hzs:=kK (aP (off/16+i) off n2).2
   have k158:=aT6 (aP (off/16+i) off n2).2 (by omega)
   unfold gL at hz
   have k167:=aZN d o1 m u q1 q2 (aP (off/16+i) off n2).1 (zB (aP (off/16+i) off n2).2) (by rw [hzs];exact hpi.1) (by rw [hzs];exact hz)
   rw [←hst] at k167
   clear hst hp hp0 hz
   generalize hW':jP c f off n2 (i+1)=W' at *
   generalize zB (aP (off/16+i) off n2).2=zs at *
   refine Wy ?_
   refine Le (i+1) (hv:=?_)
   simp only [hW']
   exact Vr [some 0,some 1,some 2,some 3,some 4]
  |true=>
   rw [hw] at hg hst
   rw [cond_true] at hst
   have hgd:=mV hf1
   have kd:=o1.file f hf1
   have hob:=aT1 kd.blocks hp8
   have hbs:=kd.blocks
   obtain⟨e0,e1,e2,e3,hec,hcan⟩:=Df.cells kd.E
   have o5:=o1.bl hf1 hp8
   have hl5:(d.bl f (off/16+i)).fl.length=d.fl.length:=zA ..
   cases hp:cC d f (off/16+i) with
   |none=>
    rw [hp] at hst
    dsimp only at hst
    have hfe:sB d f (off/16+i)=0:=by unfold sB;rw [hp]
    rw [hfe] at hg
    obtain⟨j0,j1,j2,j3,hjc⟩:=bC (E:=dA (d.fl.getD f aK).E (off/16+i) (0,0)) (kd.E.set (zD _) (fun _=>rfl))
    have k148:=aNQ kd.E kd.sup (off/16+i) (by omega) 0
    have hfin:=bIF o1 hf1 hec hjc
    rw [hec] at hgd
    rw [hcan,hjc] at k148
    have hl6:((d.bl f (off/16+i)).e0 f (off/16+i)).fl.length=d.fl.length:=(aRV _ _ _).trans hl5
    have hg2:=aD (bG d.fl) f (aR 15 [.int .i64 (d.fl.getD f aK).dev,.int .i64 (d.fl.getD f aK).slot,.int .i64 (hgt (d.fl.getD f aK).E:Int),.lst e0 e1 e2,.int .i64 e3,.int .i64 (lS (d.fl.getD f aK).E 0 (4^hgt (d.fl.getD f aK).E):Nat),.int .i64 ((d.fl.getD f aK).size:Int),.int .i64 ((d.fl.getD f aK).blocks:Int),.int .i64 (d.fl.getD f aK).ec,.int .i64 (d.fl.getD f aK).ee,.int .i64 0,.int .i64 0,.int .i64 0,.int .i64 0,.int .i64 0] 7 [.int .i64 ((qT (d.fl.getD f aK).blocks (off/16+i):Nat):Int)]) [] (by rw [bV];exact hf1)
    have hrl:(bG d.fl).length=d.fl.length:=bV _
    clear hcan hjc hec
    refine Wy ?_
    refine Le (i+1) (hv:=?_)
    simp only [hst,hl6,hfin]
    exact Vr [some 0,some 1,some 2,some 3,some 4]
   |some x=>
    obtain⟨m,u⟩:=x
    rw [hp] at hst
    dsimp only at hst
    have hfe:sB d f (off/16+i)=((m+1:Nat):Int):=by unfold sB;rw [hp]
    rw [hfe] at hg
    obtain⟨q1,q2,q3,q4,q5⟩:=bI o1 hf1 hp
    have k153:=aZK (d.bl f (off/16+i)) o5 m u q1 q2 0
    have oE:=o5.goneP (n:=m) (u:=u) (v:=0) q1 q2 (Int.le_refl 0) (by omega)
    have hlE:((d.bl f (off/16+i)).goneP m u 0).fl.length=d.fl.length:=(zA ..).trans hl5
    have hbb:=bIE d o1 (p:=off/16+i) hf1
    rw [hbb] at k153
    rw [hec] at hgd k153
    generalize(d.bl f (off/16+i)).goneP m u 0=E at *
    have hfE:f<E.fl.length:=by rw [hlE];exact hf1
    have kE:=oE.file f hfE
    obtain⟨l0',l1',l2',l3',hec2,hcan2⟩:=Df.cells kE.E
    obtain⟨j0,j1,j2,j3,hjc⟩:=bC (E:=dA (E.fl.getD f aK).E (off/16+i) (0,0)) (kE.E.set (zD _) (fun _=>rfl))
    have k148:=aNQ kE.E kE.sup (off/16+i) (by omega) 0
    have hfin:=bBD oE hfE hec2 hjc
    have hgE:=mV hfE
    rw [hec2] at hgE
    rw [hcan2,hjc] at k148
    have hl6:=aRV E f (off/16+i)
    clear hcan hjc hec hcan2 hec2 hbb
    refine Wy ?_
    refine Le (i+1) (hv:=?_)
    simp only [hst,hl6,hfin]
    exact Vr [some 0,some 1,some 2,some 3,some 4]
 obtain rfl:i=cnt off n2:=by omega
 exact Wo5
end Go.Proofs.YtmhapcbjjpadnaaGreat
