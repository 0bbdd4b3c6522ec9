/- Caches. -/
import Derived.Test.YtmhapcbjjpadnaaGreatGOb
import Derived.Test.YtmhapcbjjpadnaaGreatGSb
import Derived.Test.YtmhapcbjjpadnaaGreatGMb
import Derived.Test.YtmhapcbjjpadnaaGreatGHb
import Derived.Test.YtmhapcbjjpadnaaGreatK8b
set_option linter.all false
set_option maxHeartbeats 16000000
set_option maxRecDepth 40000
open List renaming length_set→zA,getElem_mem→zC,set_set→zE
open Nat renaming zero_lt_succ→zD
namespace Go.Proofs.YtmhapcbjjpadnaaGreat
open Go Go.Sk Go.RowKit
theorem aOS(z:Zn)(f:Int):gF (aK8 z f)=gF (aK8 (gF z) f):=rfl
theorem aG3 {a b:List Zn} (s:gX a b)(h:bF b=true)(f:Int):gX (eG (a.map gF) a f).1 (eG b b f).1:=by
 have hc:bF a=true:=by rw [s.check];exact h
 have k1:=aCZ (base:=a.map gF) (f:=f) hc
 have k2:=aCZ (base:=b) (f:=f) h
 have hb:gX (a.map gF) b:=(gX.ex _).trans s
 have hlen:=s.len
 have hgt:=λi hi=>s.get i hi
 have hcl:=((eH b).1 h).1
 generalize eG (a.map gF) a f=q1 at *
 generalize eG b b f=q2 at *
 have uniq:∀i j (hi:i<b.length) (hj:j<b.length),b[i].first<=f/\f<b[i].first+b[i].size->b[j].first<=f/\f<b[j].first+b[j].size->i=j:=λi j hi hj x y=>by
  rcases Nat.lt_trichotomy i j with e |e |e
  ·have :=hcl.sep i j hi hj e;omega
  ·exact e
  ·have :=hcl.sep j i hj hi e;omega
 have ex3:∀ {x y:Zn},gF x=gF y->x.first=y.first/\x.size=y.size/\x.free=y.free:=λ{x y} e=>by
  unfold gF at e
  rw [Zn.mk.injEq] at e
  exact⟨e.1,e.2.1,e.2.2.2.2.2.1⟩
 cases k1 with
 |range w=>
  cases k2 with
  |range _=>exact hb
  |free i hi hf hm=>
   obtain⟨e1,e2,e3⟩:=ex3 (hgt i (by omega))
   exact absurd hf (by rw [<-e1,<-e2];exact w _ (zC _))
  |ok i hi hf hm=>
   obtain⟨e1,e2,e3⟩:=ex3 (hgt i (by omega))
   exact absurd hf (by rw [<-e1,<-e2];exact w _ (zC _))
 |free i hi hf hm=>
  obtain⟨e1,e2,e3⟩:=ex3 (hgt i hi)
  rw [e1,e2] at hf
  rw [e3] at hm
  cases k2 with
  |range w=>exact absurd hf (w _ (zC _))
  |free _ _ _ _=>exact hb
  |ok j hj hf2 hm2=>
   have :=uniq i j (by omega) hj hf hf2
   subst this
   exact absurd hm hm2
 |ok i hi hf hm=>
  have e0:=hgt i hi
  obtain⟨e1,e2,e3⟩:=ex3 e0
  rw [e1,e2] at hf
  rw [e3] at hm
  cases k2 with
  |range w=>exact absurd hf (w _ (zC _))
  |free j hj hf2 hm2=>
   have :=uniq i j (by omega) hj hf hf2
   subst this
   exact absurd hm2 hm
  |ok j hj hf2 hm2=>
   have :=uniq i j (by omega) hj hf hf2
   subst this
   exact hb.set i (by rw [aOS,e0,<-aOS])
theorem mZ.refl(a:Dc):mZ a a:=⟨rfl,rfl,rfl,rfl,rfl,rfl,rfl⟩
theorem mZ.ok {a b:Dc} (s:mZ a b)(h:Ok b):Ok a:=by
 obtain⟨fl,fr,za,gr,ls,ck,pt⟩:=a
 obtain⟨fl2,fr2,zb,gr2,ls2,ck2,pt2⟩:=b
 obtain⟨e1,e2,e3,e4,e5,e6,e7⟩:=s
 dsimp only at e1 e2 e3 e4 e5 e6 e7
 subst e1 e2 e4 e5 e6 e7
 refine⟨h.nf,h.nr,h.ng,h.nl,h.nk,h.file,λn u hn hu=>?_,h.ent,by rw [show bF za=bF zb from e3.check];exact h.zone,λz hz x hx=>?_,h.gr,h.ls,h.mem,h.ck,h.pt⟩
 ·have k:=h.use n u hn hu
  exact⟨k.file,k.page,k.pg,k.ten,k.holds,k.rd,k.wr,k.val⟩
 ·have hm:gF z∈za.map gF:=List.mem_map_of_mem hz
  rw [show za.map gF=zb.map gF from e3] at hm
  obtain⟨w,hw,e⟩:=List.mem_map.1 hm
  have e:w.free=z.free:=by
   unfold gF at e
   rw [Zn.mk.injEq] at e
   exact e.2.2.2.2.2.1
  exact h.free w hw x (by rw [e];exact hx)
theorem Ok.goneP {c:Dc} (h:Ok c) {n:Nat} {u:Us} (hn:n<c.fr.length)(hu:c.fr.getD n none=some u) {v:Int} (hv:v<=0)(hv2: -1000001<=v):Ok (c.goneP n u v):=
 mZ.ok (b:=c.gone n u v) ⟨rfl,rfl,aG3 (gX.refl _) h.zone _,rfl,rfl,rfl,rfl⟩ (h.gone hn hu hv hv2)
def aWL(c:Dc)(f off n p:Nat):Dc:=bif oZ c f off n p then(match eA c f p with |some x=>((c.bl f p).goneP x.1 x.2 0).e0 f p |none=>(c.bl f p).e0 f p) else
 match eA c f p with |some x=>c.put x.1 (dQ x.2 (dP x.2.p (aO p off n).1 (zB (aO p off n).2)))|none=>c
def kH(c:Dc)(f off n:Nat):Nat->Dc
 |0=>c
 |k+1=>aWL (kH c f off n k) f off n (off/16+k)
theorem aNY(E:cM)(p:Nat)(v:Int×Nat):cI (cI E p v) p v=cI E p v:=by
 funext j
 by_cases e:j=p
 ·subst e;rw [dH,dH]
 ·rw [cT e]
theorem aWM {a b:Dc} (s:mZ a b)(h:Ok b) {f off n p:Nat} (hf:f<b.fl.length):mZ (aWL a f off n p) (aA8 b f off n p):=by
 obtain⟨fl,fr,za,gr,ls,ck,pt⟩:=a
 obtain⟨fl2,fr2,zb,gr2,ls2,ck2,pt2⟩:=b
 obtain⟨e1,e2,e3,e4,e5,e6,e7⟩:=s
 dsimp only at e1 e2 e3 e4 e5 e6 e7
 subst e1 e2 e4 e5 e6 e7
 have hf:f<fl.length:=hf
 have gs:∀x,(fl.set f x).getD f aP=x:=λx=>aJ fl f x aP hf
 unfold aWL aA8
 rw [show oZ ⟨fl,fr,za,gr,ls,ck,pt⟩ f off n p=oZ ⟨fl,fr,zb,gr,ls,ck,pt⟩ f off n p from rfl,show eA ⟨fl,fr,za,gr,ls,ck,pt⟩ f p=eA ⟨fl,fr,zb,gr,ls,ck,pt⟩ f p from rfl]
 cases oZ ⟨fl,fr,zb,gr,ls,ck,pt⟩ f off n p with
 |true=>
  rw [cond_true,cond_true]
  cases hp:eA ⟨fl,fr,zb,gr,ls,ck,pt⟩ f p with
  |none=>
   refine⟨?_,rfl,e3,rfl,rfl,rfl,rfl⟩
   unfold Dc.bl Dc.e0
   dsimp only
   rw [gs,gs,zE,zE]
   rfl
  |some x=>
   obtain⟨m,u⟩:=x
   obtain⟨q1,q2,q3,q4,q5⟩:=bM h hf hp
   subst q3 q4
   refine⟨?_,rfl,aG3 e3 h.zone _,rfl,rfl,rfl,rfl⟩
   unfold Dc.bl Dc.e0 Dc.goneP Dc.gone
   dsimp only
   simp only [zE,gs]
   rw [fO,aNY]
   rfl
 |false=>
  rw [cond_false,cond_false]
  cases hp:eA ⟨fl,fr,zb,gr,ls,ck,pt⟩ f p with
  |none=>exact⟨rfl,rfl,e3,rfl,rfl,rfl,rfl⟩
  |some x=>exact⟨rfl,rfl,e3,rfl,rfl,rfl,rfl⟩
theorem aA9 {a b:Dc} (s:mZ a b)(h:Ok b) {f off n:Nat} (hf:f<b.fl.length)(hb:off+n<=128):∀k,k<=cnt off n->mZ (kH a f off n k) (sS b f off n k)
 |0,_=>s
 |k+1,hk=>by
  have ih:=aA9 s h hf hb k (by omega)
  obtain⟨o1,o2,o3,o4⟩:=lK h hf hb k (by omega)
  exact aWM ih o1 (by rw [o2];exact hf)
theorem mZ.pg {a b:Dc} (s:mZ a b)(f p:Nat):eA a f p=eA b f p:=by unfold eA;rw [s.fl,s.fr]
theorem aQG {c:Dc} (h:Ok c) {f off n:Nat} (hf:f<c.fl.length)(hb:off+n<=128)(k:Nat)(hk:k<=cnt off n):Ok (kH c f off n k)/\(kH c f off n k).fl.length=c.fl.length/\((kH c f off n k).fl.getD f aP).size=(c.fl.getD f aP).size/\∀i,k<=i->eA (kH c f off n k) f (off/16+i)=eA c f (off/16+i):=by
 have s:=aA9 (mZ.refl c) h hf hb k hk
 obtain⟨o1,o2,o3,o4⟩:=lK h hf hb k hk
 exact⟨s.ok o1,by rw [s.fl];exact o2,by rw [s.fl];exact o3,λi hi=>(s.pg _ _).trans (o4 i hi)⟩
end Go.Proofs.YtmhapcbjjpadnaaGreat
namespace Go.Proofs.YtmhapcbjjpadnaaGreat
open Go Go.Sk Go.RowKit
noncomputable def bLF:Rsv Tryz.prog Tryz.f141 [] 2:=⟨_,_,rfl,rfl⟩
theorem bE2(c:Dc)(f:Nat)(hf:f<c.fl.length):aM Tryz.prog 141 c.ob2 [.agg c.o2,.int .i64 (f:Int)] (.bool true) c.ob2:=by
 refine bE bLF (ob0:=c.ob2) Tryz.func141 rfl rfl rfl ?_
 exact Wo4
noncomputable def bG3:Rsv Tryz.prog Tryz.f138 [] 3:=⟨_,_,rfl,rfl⟩
theorem bE1(c:Dc)(h:Ok c)(f p:Nat)(hf:f<c.fl.length)(hp:p<16):aM Tryz.prog 138 c.ob2 [.agg c.o2,.int .i64 (f:Int),.int .i64 (p:Int)] (.tup [.int .i64 (tV c f p),.bool (decide (tV c f p>0))]) c.ob2:=by
 have k141:=bE2 c f hf
 have kf:=h.file f hf
 have k143:=bAW kf.E kf.sup p hp
 have hgf:=iS hf
 obtain⟨k0,k1,k2,k3,hfc,hcan⟩:=Df.cells kf.E
 rw [hfc] at hgf
 rw [hcan] at k143
 have hv:max ((c.fl.getD f aP).E p).1 0=tV c f p:=by
  unfold tV
  cases e:eA c f p with
  |none=>have :=vX h hf e;dsimp only;omega
  |some x=>
   have :=(bM h hf (n:=x.1) (u:=x.2) e).2.2.2.2
   dsimp only;omega
 have hlo:=kf.lo p
 have hhi:((c.fl.getD f aP).E p).1<=64:=by
  by_cases e:0< ((c.fl.getD f aP).E p).1
  ·obtain⟨n,u,a1,a2,-⟩:=h.ent f p hf e
   have :=h.nr
   omega
  ·omega
 generalize tV c f p=r at *
 generalize((c.fl.getD f aP).E p).1=v at *
 subst hv
 by_cases hv:0<v
 ·rw [show max v 0=v by omega,decide_eq_true hv]
  refine bE bG3 (ob0:=c.ob2) Tryz.func138 rfl rfl rfl ?_
  exact Wo4
 ·rw [show max v 0=0 by omega,decide_eq_false (by omega)]
  refine bE bG3 (ob0:=c.ob2) Tryz.func138 rfl rfl rfl ?_
  exact Wo4
noncomputable def R96:Rsv Tryz.prog Tryz.f96 [] 2:=⟨_,_,rfl,rfl⟩
theorem bJY(c:Dc)(h:Ok c):aM Tryz.prog 96 c.ob2 [.agg c.o2,.int .i64 0] (.bool false) c.ob2:=by
 rcases aBC c.fr 0 with h2 | ⟨o,h2⟩
 ·refine bE R96 (ob0:=c.ob2) Tryz.func96 rfl rfl rfl ?_
  exact Wo4
 ·cases o with
  |none=>
   have h2:(aV c.fr).getD 0 []=fre.c:=h2
   refine bE R96 (ob0:=c.ob2) Tryz.func96 rfl rfl rfl ?_
   exact Wo4
  |some u=>
   have h2:(aV c.fr).getD 0 []=u.c:=h2
   refine bE R96 (ob0:=c.ob2) Tryz.func96 rfl rfl rfl ?_
   exact Wo4
theorem bJX(c:Dc)(h:Ok c)(m:Nat)(u:Us)(h1:m<c.fr.length)(h2:c.fr.getD m none=some u):aM Tryz.prog 96 c.ob2 [.agg c.o2,.int .i64 ((m+1:Nat):Int)] (.bool true) c.ob2:=by
 have hgu:=jB h1 h2
 have hnr:=h.nr
 refine bE R96 (ob0:=c.ob2) Tryz.func96 rfl rfl rfl ?_
 exact Wo4
theorem aYB {c:Dc} (h:Ok c) {f p:Nat} (hf:f<c.fl.length)(hp:p<16):∃b:Bool,aM Tryz.prog 138 c.ob2 [.agg c.o2,.int .i64 (f:Int),.int .i64 (p:Int)] (.tup [.int .i64 (tV c f p),.bool b]) c.ob2/\aM Tryz.prog 96 c.ob2 [.agg c.o2,.int .i64 (tV c f p)] (.bool b) c.ob2/\(b=false->tV c f p=0):=by
 have k:=bE1 c h f p hf hp
 cases e:eA c f p with
 |none=>
  have e2:tV c f p=0:=by unfold tV;rw [e]
  rw [e2] at k⊢
  exact⟨false,k,bJY c h,λ_=>rfl⟩
 |some x=>
  obtain⟨m,u⟩:=x
  have e2:tV c f p=((m+1:Nat):Int):=by unfold tV;rw [e]
  rw [e2,decide_eq_true (show((m+1:Nat):Int)>0 by omega)] at k
  rw [e2]
  obtain⟨q1,q2,q3,q4,q5⟩:=bM h hf e
  exact⟨true,k,bJX c h m u q1 q2,λx=>by cases x⟩
theorem bE6(c:Dc)(h:Ok c)(f off n:Nat)(hf:f<c.fl.length)(hb:off+n<=128):aM Tryz.prog 170 c.ob2 [.agg c.o2,.int .i64 (f:Int),.int .i64 (off:Int),.int .i64 (n:Int)] (.lst 5 false (aDO c f off (bS c f off n) (cnt off (bS c f off n)))) c.ob2:=by
 have hgf:=iS hf
 have hs:=(h.file f hf).size
 obtain⟨k0,k1,k2,k3,hfc,-⟩:=Df.cells (h.file f hf).E
 rw [hfc] at hgf
 by_cases ho:off<=(c.fl.getD f aP).size
 ·have hrd:min (n:Int) (((c.fl.getD f aP).size:Int)- (off:Int))=((bS c f off n:Nat):Int):=by unfold bS;omega
  have hnl:bS c f off n<=n:=by unfold bS;omega
  have k162:=aEL off (bS c f off n) (by omega)
  have hcn:=fK (off:=off) (n:=bS c f off n) (by omega)
  generalize bS c f off n=n2 at *
  refine bE aX8 (ob0:=c.ob2) Tryz.func170 rfl rfl rfl ?_
  refine Wy ?_
  refine Lp (λi:Nat=>i<=cnt off n2) (λi=> [(30,.int .i64 (i:Int)),(10,.sl 5 0 i)]) (λi=> [(5,.row 5 (aDO c f off n2 i))]) (λi=>cnt off n2-i) 0 (Nat.zero_le _) ?_ ?_
  ·exact Vr [some 0,some 1,some 2,some 3,_,none]
  intro i hi
  refine Wy ?_
  refine fP (λb=>?_) (λb=>?_)
  ·have b:i<cnt off n2:=by omega
   have hg:=sJ off n2 (cnt off n2) i b
   have hpi:=eY b
   have hq2:=aC2 b
   have hst:=aFS c f off n2 i
   have hw:=aG7 c f off n2 (off/16+i)
   obtain⟨y,k138,k96,hy⟩:=aYB h hf (show off/16+i<16 by omega)
   generalize tV c f (off/16+i)=v at *
   generalize(aO (off/16+i) off n2).1=a1 at *
   generalize(aO (off/16+i) off n2).2=a2 at *
   generalize(c.fl.getD f aP).size=z at *
   rcases hw with ⟨w1,w2,w3⟩| ⟨w1,w2⟩| ⟨w1,w2,w3⟩
   all_goals
    rw [w1] at hst
    cases y with
    |true=>
     clear hy
     refine Wy ?_
     refine Le (i+1) (hv:=?_)
     simp only [hst]
     exact Vr [some 0,some 1,some 2,some 3,_,_]
    |false=>
     obtain rfl:=hy rfl
     refine Wy ?_
     refine Le (i+1) (hv:=?_)
     simp only [hst]
     exact Vr [some 0,some 1,some 2,some 3,_,_]
  obtain rfl:i=cnt off n2:=by omega
  exact Wo4
 ·have hrd:bS c f off n=0:=by unfold bS;omega
  have k162:=aUL (off:Int) (min (n:Int) (((c.fl.getD f aP).size:Int)- (off:Int))) (.inl (by omega))
  rw [hrd]
  refine aM.le (res:=.lst 0 true []) ?_ (kN.refl _) uY.nils (lQ.refl _)
  generalize(c.fl.getD f aP).size=z at *
  refine bE aX8 (ob0:=c.ob2) Tryz.func170 rfl rfl rfl ?_
  refine Wy ?_
  refine Lp (λ_:Unit=>True) (λ_=> [(30,.int .i64 0),(10,.lst 0 true [])]) (λ_=> []) (λ_=>0) () trivial ?_ ?_
  ·exact Vr [some 0,some 1,some 2,some 3,_]
  intro _ _
  exact Wo4
theorem bLP(c:Dc)(h:Ok c) {f p:Nat} (hf:f<c.fl.length):(c.bl f p).b=[.box [.sl 1 0 c.fl.length,.sl 2 0 c.fr.length,.lst 6 false (aQ c.zo),.lst 3 false (bC c.gr),.sl 3 0 c.ls.length,.sl 4 0 c.ck.length,.lst 5 false (aY c.pt)],.row 15 ((bA c.fl).set f (aU 15 (c.fl.getD f aP).c 7 [.int .i64 ((uO (c.fl.getD f aP).blocks p:Nat):Int)])),.row 9 (aV c.fr),.row 3 (bW c.ls),.row 1 (aE c.ck)]:=by
 rw [<-aL4 (b:=uO (c.fl.getD f aP).blocks p) hf (h.file f hf).E]
 unfold Dc.b Dc.bl
 dsimp only
 rw [zA]
theorem bLQ {d:Dc} (h:Ok d) {f p:Nat} (hf:f<d.fl.length) {lit cl:List V} (e1:(d.fl.getD f aP).c=lit)(e2:can (cI (d.fl.getD f aP).E p (0,0))=cl):bA ((d.bl f p).e0 f p).fl=((bA d.fl).set f (aU 15 lit 7 [.int .i64 ((uO (d.fl.getD f aP).blocks p:Nat):Int)])).set f (aU 15 (aU 15 lit 7 [.int .i64 ((uO (d.fl.getD f aP).blocks p:Nat):Int)]) 2 cl):=by
 subst e1 e2
 have kf:=h.file f hf
 have hl:f< (d.bl f p).fl.length:=by show f< (List.set _ _ _).length;rw [zA];exact hf
 have hx:(d.bl f p).fl.getD f aP=fbl (d.fl.getD f aP) (uO (d.fl.getD f aP).blocks p):=aJ _ _ _ _ hf
 have h1:=nN (d.bl f p).fl f (cI (d.fl.getD f aP).E p (0,0)) hl (by rw [hx];exact kf.E) (kf.E.set (zD _) (λ_=>rfl))
 have h2:bA (d.bl f p).fl=(bA d.fl).set f (aU 15 (d.fl.getD f aP).c 7 [.int .i64 ((uO (d.fl.getD f aP).blocks p:Nat):Int)]):=aL4 hf kf.E
 rw [h2,aJ _ _ _ _ (by rw [aZ];exact hf)] at h1
 rw [h1]
 show bA ((d.bl f p).fl.set f (eP ((d.bl f p).fl.getD f aP) (cI ((d.bl f p).fl.getD f aP).E p (0,0))))=_
 rw [hx];rfl
theorem bD3 {d:Dc} (h:Ok d) {f p:Nat} (hf:f<d.fl.length) {lit cl:List V} (e1:(d.fl.getD f aP).c=lit)(e2:can (cI (d.fl.getD f aP).E p (0,0))=cl):bA (d.e0 f p).fl=(bA d.fl).set f (aU 15 lit 2 cl):=by
 subst e1 e2
 have kf:=h.file f hf
 have h1:=nN d.fl f (cI (d.fl.getD f aP).E p (0,0)) hf kf.E (kf.E.set (zD _) (λ_=>rfl))
 rw [eJ d.fl f hf] at h1
 exact h1.symm
theorem aTF(d:Dc)(f p:Nat):(d.e0 f p).fl.length=d.fl.length:=zA ..
noncomputable def bLH:Rsv Tryz.prog Tryz.f172 [] 4:=⟨_,_,rfl,rfl⟩
theorem bB4(c:Dc)(h:Ok c)(f off n:Nat)(hf:f<c.fl.length)(hb:off+n<=128)(hm:(cW c f off (bS c f off n) (cnt off (bS c f off n))).2.2=true):aM Tryz.prog 172 c.b [.ptr 0 0 0,.int .i64 (f:Int),.int .i64 (off:Int),.int .i64 (n:Int)] (.tup []) (kH c f off (bS c f off n) (cnt off (bS c f off n))).b:=by
 have k170:=bE6 c h f off n hf hb
 have hnl:bS c f off n<=n:=by unfold bS;omega
 have hcn:=fK (off:=off) (n:=bS c f off n) (by omega)
 have hmay:=aDM hm
 generalize bS c f off n=n2 at *
 have hb2:off+n2<=128:=by omega
 refine bE bLH (ob0:=c.b) Tryz.func172 rfl rfl rfl ?_
 refine Wy ?_
 refine Lp (λi:Nat=>i<=cnt off n2) (λi=> [(19,.int .i64 (i:Int))]) (λi=> [(0,.box [.sl 1 0 (kH c f off n2 i).fl.length,.sl 2 0 (kH c f off n2 i).fr.length,.lst 6 false (aQ (kH c f off n2 i).zo),.lst 3 false (bC (kH c f off n2 i).gr),.sl 3 0 (kH c f off n2 i).ls.length,.sl 4 0 (kH c f off n2 i).ck.length,.lst 5 false (aY (kH c f off n2 i).pt)]),(1,.row 15 (bA (kH c f off n2 i).fl)),(2,.row 9 (aV (kH c f off n2 i).fr)),(3,.row 3 (bW (kH c f off n2 i).ls)),(4,.row 1 (aE (kH c f off n2 i).ck))]) (λi=>cnt off n2-i) 0 (Nat.zero_le _) ?_ ?_
 ·exact Vr [some 0,some 1,some 2,some 3,some 4]
 intro i hi
 refine Wy ?_
 refine fP (λb=>?_) (λb=>?_)
 ·have b:i<cnt off n2:=by omega
  have hg:=aJS c f off n2 (cnt off n2) i b
  have hpi:=eY b
  obtain⟨o1,o2,o3,o4⟩:=aQG h hf hb2 i hi
  have hp0:=o4 i (Nat.le_refl i)
  have hmi:=hmay i b
  have hst:kH c f off n2 (i+1)=aWL (kH c f off n2 i) f off n2 (off/16+i):=rfl
  unfold aWL at hst
  rw [aKJ o3] at hst
  have hfr:tV c f (off/16+i)=tV (kH c f off n2 i) f (off/16+i):=by unfold tV;rw [hp0]
  rw [hfr] at hg
  clear hfr
  generalize hd:kH c f off n2 i=d at *
  have hf1:f<d.fl.length:=by rw [o2];exact hf
  have hnr:=o1.nr
  have hp8:off/16+i<8:=by omega
  have h2p:2^(off/16+i)<2^8:=Nat.pow_lt_pow_right (by omega) (by omega)
  cases hw:oZ c f off n2 (off/16+i) with
  |false=>
   rw [hw] at hg hst
   rw [cond_false] at hst
   obtain⟨m,u,hp,hz⟩:=aKQ hmi hw
   rw [<-hp0] at hp
   rw [hp] at hst
   dsimp only at hst
   have hfe:tV d f (off/16+i)=((m+1:Nat):Int):=by unfold tV;rw [hp]
   rw [hfe] at hg
   obtain⟨q1,q2,q3,q4,q5⟩:=bM o1 hf1 hp
   have hzs:=aJ3 (aO (off/16+i) off n2).2
   have k158:=bE5 (aO (off/16+i) off n2).2 (by omega)
   unfold fT at hz
   have k167:=bB2 d o1 m u q1 q2 (aO (off/16+i) off n2).1 (zB (aO (off/16+i) off n2).2) (by rw [hzs];exact hpi.1) (by rw [hzs];exact hz)
   rw [<-hst] at k167
   clear hst hp hp0 hz
   generalize hW':kH c f off n2 (i+1)=W' at *
   generalize zB (aO (off/16+i) off n2).2=zs at *
   refine Wy ?_
   refine Le (i+1) (hv:=?_)
   simp only [hW']
   exact Vr [some 0,some 1,some 2,some 3,some 4]
  |true=>
   rw [hw] at hg hst
   rw [cond_true] at hst
   have hgd:=iS hf1
   have kd:=o1.file f hf1
   have hob:=aEI kd.blocks hp8
   have hbs:=kd.blocks
   obtain⟨e0,e1,e2,e3,hec,hcan⟩:=Df.cells kd.E
   have o5:=o1.bl hf1 hp8
   have hl5:(d.bl f (off/16+i)).fl.length=d.fl.length:=zA ..
   cases hp:eA d f (off/16+i) with
   |none=>
    rw [hp] at hst
    dsimp only at hst
    have hfe:tV d f (off/16+i)=0:=by unfold tV;rw [hp]
    rw [hfe] at hg
    obtain⟨j0,j1,j2,j3,hjc⟩:=bB (E:=cI (d.fl.getD f aP).E (off/16+i) (0,0)) (kd.E.set (zD _) (λ_=>rfl))
    have k148:=aUI kd.E kd.sup (off/16+i) (by omega) 0
    have hfin:=bLQ o1 hf1 hec hjc
    rw [hec] at hgd
    rw [hcan,hjc] at k148
    have hl6:((d.bl f (off/16+i)).e0 f (off/16+i)).fl.length=d.fl.length:=(aTF _ _ _).trans hl5
    have hg2:=aJ (bA d.fl) f (aU 15 [.int .i64 (d.fl.getD f aP).dev,.int .i64 (d.fl.getD f aP).slot,.int .i64 (hgt (d.fl.getD f aP).E:Int),.lst e0 e1 e2,.int .i64 e3,.int .i64 (lI (d.fl.getD f aP).E 0 (4^hgt (d.fl.getD f aP).E):Nat),.int .i64 ((d.fl.getD f aP).size:Int),.int .i64 ((d.fl.getD f aP).blocks:Int),.int .i64 (d.fl.getD f aP).ec,.int .i64 (d.fl.getD f aP).ee,.int .i64 0,.int .i64 0,.int .i64 0,.int .i64 0,.int .i64 0] 7 [.int .i64 ((uO (d.fl.getD f aP).blocks (off/16+i):Nat):Int)]) [] (by rw [aZ];exact hf1)
    have hrl:(bA d.fl).length=d.fl.length:=aZ _
    clear hcan hjc hec
    refine Wy ?_
    trace_state
    refine Le (i+1) (hv:=?_)
    simp only [hst,hl6,hfin]
    exact Vr [some 0,some 1,some 2,some 3,some 4]
   |some x=>
    obtain⟨m,u⟩:=x
    rw [hp] at hst
    dsimp only at hst
    have hfe:tV d f (off/16+i)=((m+1:Nat):Int):=by unfold tV;rw [hp]
    rw [hfe] at hg
    obtain⟨q1,q2,q3,q4,q5⟩:=bM o1 hf1 hp
    have k153:=bHM (d.bl f (off/16+i)) o5 m u q1 q2 0
    have oE:=o5.goneP (n:=m) (u:=u) (v:=0) q1 q2 (Int.le_refl 0) (by omega)
    have hlE:((d.bl f (off/16+i)).goneP m u 0).fl.length=d.fl.length:=(zA ..).trans hl5
    have hbb:=bLP d o1 (p:=off/16+i) hf1
    rw [hbb] at k153
    rw [hec] at hgd k153
    generalize(d.bl f (off/16+i)).goneP m u 0=E at *
    have hfE:f<E.fl.length:=by rw [hlE];exact hf1
    have kE:=oE.file f hfE
    obtain⟨l0',l1',l2',l3',hec2,hcan2⟩:=Df.cells kE.E
    obtain⟨j0,j1,j2,j3,hjc⟩:=bB (E:=cI (E.fl.getD f aP).E (off/16+i) (0,0)) (kE.E.set (zD _) (λ_=>rfl))
    have k148:=aUI kE.E kE.sup (off/16+i) (by omega) 0
    have hfin:=bD3 oE hfE hec2 hjc
    have hgE:=iS hfE
    rw [hec2] at hgE
    rw [hcan2,hjc] at k148
    have hl6:=aTF E f (off/16+i)
    clear hcan hjc hec hcan2 hec2 hbb
    refine Wy ?_
    trace_state
    refine Le (i+1) (hv:=?_)
    simp only [hst,hl6,hfin]
    exact Vr [some 0,some 1,some 2,some 3,some 4]
 obtain rfl:i=cnt off n2:=by omega
 exact Wo5
end Go.Proofs.YtmhapcbjjpadnaaGreat
