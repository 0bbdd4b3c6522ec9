/- Caches. -/
import Derived.Test.YtmhapcbjjpadnaaGreatGTb
import Derived.Test.YtmhapcbjjpadnaaGreatGHb
import Derived.Test.YtmhapcbjjpadnaaGreatGPb
set_option linter.all false
set_option maxHeartbeats 8000000
set_option maxRecDepth 40000
open Int renaming toNat_natCast→zA
open List renaming getD_eq_getElem?_getD→zC
open Nat renaming le_refl→zD
namespace Go.Proofs.YtmhapcbjjpadnaaGreat
open Go Go.Sk Go.RowKit
theorem aMQ(c:Dc)(f off n:Nat):∀k,cW c.x f off n k=cW c f off n k
 |0=>rfl
 |k+1=>by rw [cW,cW,aMQ c f off n k];rfl
def bF1(c:Dc)(f off n:Nat):Dc×Int:=bif (cW c f off (bS c f off n) (cnt off (bS c f off n))).2.2 then(kH c.x f off (bS c f off n) (cnt off (bS c f off n)),0) else(c.x,7)
def aVN(c:Dc)(f off n:Int):Dc×Int:=bif eX c f off n then bF1 c f.toNat off.toNat n.toNat else(c.x,2)
noncomputable def R62:aJ9 Tryz.prog Tryz.f62 [] 4:=⟨_,_,_,_,_,_,_,rfl,rfl,rfl⟩
theorem bMK(c:Dc)(h:Ok c)(f off n:Int):aM Tryz.prog 62 [] [.agg c.c,.int .i64 f,.int .i64 off,.int .i64 n] (.tup [.agg (aVN c f off n).1.c,.int .i64 (aVN c f off n).2]) []:=by
 have k82:=aRQ c h
 have k141:=aN4 c f
 have k161:=qZ off n
 generalize hq:aVN c f off n=q
 unfold aVN at hq
 cases hr:eX c f off n with
 |false=>
  rw [hr,cond_false] at hq
  subst hq
  unfold eX at hr
  cases hd:decide (0<=f/\f< (c.fl.length:Int)) with
  |false=>
   rw [hd] at k141
   refine dF R62 (ob0:= []) cE Tryz.func62 rfl rfl rfl ?_
   exact jR
  |true=>
   rw [hd,cond_true] at hr
   rw [hd] at k141
   rw [hr] at k161
   refine dF R62 (ob0:= []) cE Tryz.func62 rfl rfl rfl ?_
   exact jR
 |true=>
  rw [hr,cond_true] at hq
  obtain⟨f,off,n,rfl,rfl,rfl,hf,hb⟩:=dU hr
  rw [decide_eq_true (by omega)] at k141
  rw [iN hb] at k161
  simp only [zA] at hq
  have k58:=bEW c h f off n hf hb
  have k172:=bB4 c.x h.x f off n hf hb
  rw [show bS c.x f off n=bS c f off n from rfl,aMQ] at k172
  unfold bF1 at hq
  unfold aHG at k58
  generalize cW c f off (bS c f off n) (cnt off (bS c f off n))=x at *
  generalize kH c.x f off (bS c f off n) (cnt off (bS c f off n))=W at *
  obtain⟨w,t,m⟩:=x
  dsimp only at *
  cases m with
  |true=>
   have k172:=k172 rfl
   subst hq
   refine dF R62 (ob0:= []) cE Tryz.func62 rfl rfl rfl ?_
   exact jR
  |false=>
   subst hq
   refine dF R62 (ob0:= []) cE Tryz.func62 rfl rfl rfl ?_
   exact jR
def bFG(c:Dc)(f z:Nat):Dc×Int:=bif decide (z< (c.fl.getD f aP).size) then
    (bif (cW c f z (bS c f z ((c.fl.getD f aP).size-z)) (cnt z (bS c f z ((c.fl.getD f aP).size-z)))).2.2 then((kH c.x f z (bS c f z ((c.fl.getD f aP).size-z)) (cnt z (bS c f z ((c.fl.getD f aP).size-z)))).sz f z,0) else(c.x,7))
 else bif (iE c f (z:Int)).2.2==0 then((cB c.x f (z:Int)).1.sz f z,0) else(c.x,(iE c f (z:Int)).2.2)
def aWD(c:Dc)(f z:Int):Dc×Int:=bif eX c f z 0 then bFG c f.toNat z.toNat else(c.x,2)
theorem Ok.szb {c:Dc} (h:Ok c) {f n:Nat} (hf:f<c.fl.length):(c.sz f n).c=[.lst 15 false ((bA c.fl).set f (aU 15 (c.fl.getD f aP).c 6 [.int .i64 (n:Int)])),.lst 9 false (aV c.fr),.lst 6 false (aQ c.zo),.lst 3 false (bC c.gr),.lst 3 false (bW c.ls),.lst 1 false (aE c.ck),.lst 5 false (aY c.pt)]:=by
 rw [aPL hf (h.file f hf).E];rfl
theorem aZZ {c:Dc} (h:Ok c) {f:Nat} {e:Int} (hf:f<c.fl.length)(g:(iE c f e).2.2=0):∃W:Dc,Ok W/\W.fl.length=c.fl.length/\(cB c.x f e).1=W/\aM Tryz.prog 168 c.x.b [.ptr 0 0 0,.int .i64 (iE c f e).1,.int .i64 (iE c f e).2.1] (.tup []) W.b:=by
 rcases aG4 h hf g with ⟨e1,e2⟩| ⟨m,se,u,e1,q1,q2,q3,e2⟩
 ·rw [e1,e2]
  exact⟨_,h.x,rfl,rfl,aNG _ 0⟩
 ·rw [e1,e2,kF (c:=c.x) q2]
  exact⟨_,h.x.put' q1 q2 (mO (h.use m u q1 q2).pg q3),nP _ _ _,rfl,bB3 c.x h.x m u q1 q2 se q3⟩
noncomputable def R64:aJ9 Tryz.prog Tryz.f64 [] 3:=⟨_,_,_,_,_,_,_,rfl,rfl,rfl⟩
theorem bML(c:Dc)(h:Ok c)(f z:Int):aM Tryz.prog 64 [] [.agg c.c,.int .i64 f,.int .i64 z] (.tup [.agg (aWD c f z).1.c,.int .i64 (aWD c f z).2]) []:=by
 have k82:=aRQ c h
 have k141:=aN4 c f
 have k161:=qZ z 0
 generalize hq:aWD c f z=q
 unfold aWD at hq
 cases hr:eX c f z 0 with
 |false=>
  rw [hr,cond_false] at hq
  subst hq
  unfold eX at hr
  cases hd:decide (0<=f/\f< (c.fl.length:Int)) with
  |false=>
   rw [hd] at k141
   refine dF R64 (ob0:= []) cE Tryz.func64 rfl rfl rfl ?_
   exact jR
  |true=>
   rw [hd,cond_true] at hr
   rw [hd] at k141
   rw [hr] at k161
   refine dF R64 (ob0:= []) cE Tryz.func64 rfl rfl rfl ?_
   exact jR
 |true=>
  rw [hr,cond_true] at hq
  obtain⟨f,z,n,rfl,rfl,hn0,hf,hb⟩:=dU hr
  have hn0:n=0:=by omega
  subst hn0
  have hz:z<=128:=by omega
  rw [decide_eq_true (by omega)] at k141
  rw [show gE (z:Int) 0=true from iN (off:=z) (n:=0) hb] at k161
  simp only [zA] at hq
  have k166:=bB1 c h f (z:Int) hf
  have hgf:=iS hf
  have hs:=(h.file f hf).size
  obtain⟨k0,k1,k2,k3,hfc,-⟩:=Df.cells (h.file f hf).E
  rw [hfc] at hgf
  unfold bFG at hq
  by_cases hlt:z< (c.fl.getD f aP).size
  ·rw [decide_eq_true hlt,cond_true] at hq
   have hg0:iE c f (z:Int)=(0,0,0):=by
    unfold iE eZ
    rw [decide_eq_true (by omega)];rfl
   rw [hg0] at k166
   have k58:=bEW c h f z ((c.fl.getD f aP).size-z) hf (by omega)
   have k172:=bB4 c.x h.x f z ((c.fl.getD f aP).size-z) hf (by omega)
   have hsz:(((c.fl.getD f aP).size-z:Nat):Int)=((c.fl.getD f aP).size:Int)- (z:Int):=by omega
   clear hsz
   rw [show bS c.x f z ((c.fl.getD f aP).size-z)=bS c f z ((c.fl.getD f aP).size-z) from rfl,aMQ] at k172
   have hrd:bS c f z ((c.fl.getD f aP).size-z)<=128-z:=by unfold bS;omega
   obtain⟨w1,w2,w3,-⟩:=aQG h.x (f:=f) (off:=z) (n:=bS c f z ((c.fl.getD f aP).size-z)) hf (by omega) _ (zD _)
   unfold aHG at k58
   generalize cW c f z (bS c f z ((c.fl.getD f aP).size-z)) (cnt z (bS c f z ((c.fl.getD f aP).size-z)))=x at *
   generalize kH c.x f z (bS c f z ((c.fl.getD f aP).size-z)) (cnt z (bS c f z ((c.fl.getD f aP).size-z)))=W at *
   obtain⟨w,t,m⟩:=x
   dsimp only at *
   cases m with
   |true=>
    have k172:=k172 rfl
    rw [cond_true] at hq
    have hfe:f<W.fl.length:=by rw [w2];exact hf
    have k168:=aNG W 0
    have hgw:=iS hfe
    have hwc:=w1.szb (n:=z) hfe
    obtain⟨j0,j1,j2,j3,hwf,-⟩:=Df.cells (w1.file f hfe).E
    rw [hwf] at hgw hwc
    subst hq
    rw [hwc]
    generalize(c.fl.getD f aP).size=y at *
    generalize(W.fl.getD f aP).size=y2 at *
    refine dF R64 (ob0:= []) cE Tryz.func64 rfl rfl rfl ?_
    exact jR
   |false=>
    rw [cond_false] at hq
    subst hq
    generalize(c.fl.getD f aP).size=y at *
    refine dF R64 (ob0:= []) cE Tryz.func64 rfl rfl rfl ?_
    exact jR
  ·rw [decide_eq_false hlt,cond_false] at hq
   by_cases g4:(iE c f (z:Int)).2.2=0
   ·obtain⟨W,w1,w2,w3,k168⟩:=aZZ h hf g4
    rw [w3,beq_iff_eq.2 g4,cond_true] at hq
    rw [g4] at k166
    have hfe:f<W.fl.length:=by rw [w2];exact hf
    have hgw:=iS hfe
    have hwc:=w1.szb (n:=z) hfe
    obtain⟨j0,j1,j2,j3,hwf,-⟩:=Df.cells (w1.file f hfe).E
    rw [hwf] at hgw hwc
    subst hq
    rw [hwc]
    clear w3 g4
    generalize iE c f (z:Int)=g at *
    generalize(c.fl.getD f aP).size=y at *
    generalize(W.fl.getD f aP).size=y2 at *
    refine dF R64 (ob0:= []) cE Tryz.func64 rfl rfl rfl ?_
    exact jR
   ·rw [beq_eq_false_iff_ne.2 g4,cond_false] at hq
    subst hq
    generalize iE c f (z:Int)=g at *
    generalize(c.fl.getD f aP).size=y at *
    refine dF R64 (ob0:= []) cE Tryz.func64 rfl rfl rfl ?_
    exact jR
end Go.Proofs.YtmhapcbjjpadnaaGreat
namespace Go.Proofs.YtmhapcbjjpadnaaGreat
open Go Go.Sk Go.RowKit
theorem mZ.put {a b:Dc} (s:mZ a b)(m:Nat)(u:Us):mZ (a.put m u) (b.put m u):=by
 obtain⟨fl,fr,za,gr,ls,ck,pt⟩:=a
 obtain⟨fl2,fr2,zb,gr2,ls2,ck2,pt2⟩:=b
 obtain⟨e1,e2,e3,e4,e5,e6,e7⟩:=s
 dsimp only at e1 e2 e3 e4 e5 e6 e7
 subst e1 e2 e4 e5 e6 e7
 exact⟨rfl,rfl,e3,rfl,rfl,rfl,rfl⟩
theorem mZ.acc {a b:Dc} (s:mZ a b)(m t:Nat):mZ (a.acc m t) (b.acc m t):=⟨s.fl,s.fr,s.zo,s.gr,by unfold Dc.acc;dsimp only;rw [s.ls],s.ck,s.pt⟩
theorem mZ.sz {a b:Dc} (s:mZ a b)(f n:Nat):mZ (a.sz f n) (b.sz f n):=⟨by unfold Dc.sz;dsimp only;rw [s.fl],s.fr,s.zo,s.gr,s.ls,s.ck,s.pt⟩
theorem aQJ {a b:Dc} (s:mZ a b)(f off:Nat)(d:ByteArray):∀k,mZ (kI a f off d k) (kI b f off d k)
 |0=>s
 |k+1=>by
  have ih:=aQJ s f off d k
  rw [kI,kI,ih.pg]
  cases eA (kI b f off d k) f (off/16+k) with
  |none=>exact ih
  |some x=>exact(ih.put _ _).acc _ _
theorem aPN {a b:Dc} (s:mZ a b)(f off n:Nat):∀k,mZ (rJ a f off n k).1 (rJ b f off n k).1/\(rJ a f off n k).2=(rJ b f off n k).2
 |0=>⟨s,rfl⟩
 |k+1=>by
  obtain⟨i1,i2⟩:=aPN s f off n k
  rw [rJ,rJ,s.pg]
  cases eA b f (off/16+k) with
  |none=>exact⟨i1,i2⟩
  |some x=>exact⟨i1.acc _ _,by dsimp only;rw [i2]⟩
theorem aLN {a b:Dc} (s:mZ a b)(f:Nat)(e:Int):mZ (cB a f e).1 (cB b f e).1/\(cB a f e).2=(cB b f e).2:=by
 unfold cB
 rw [s.fl]
 cases eZ (b.fl.getD f aP) e with
 |none=>exact⟨s,rfl⟩
 |some x=>
  dsimp only
  rw [s.pg]
  cases eA b f x.1 with
  |none=>exact⟨s,rfl⟩
  |some y=>
   dsimp only
   cases(jC false x.2 y.2.p.v==0) with
   |false=>exact⟨s,rfl⟩
   |true=>exact⟨s.put _ _,rfl⟩
theorem aWH {a b:Dc} (s:mZ a b)(f off n:Nat)(w:Bool)(k:Nat):eR a f off n w k=eR b f off n w k:=aIX (λp=>by rw [s.pg]) k
theorem aSJ {a b:Dc} (s:mZ a b)(f off:Nat)(d:ByteArray):mZ (jS a f off d).1 (jS b f off d).1/\(jS a f off d).2=(jS b f off d).2:=by
 obtain⟨k1,k2⟩:=aLN s f ((off+d.size:Nat):Int)
 have k3:=aQJ k1 f off d (cnt off d.size)
 unfold jS
 rw [aWH s,k2]
 cases(d.size==0) with
 |true=>exact⟨s,rfl⟩
 |false=>
  rw [cond_false,cond_false]
  cases eR b f off d.size true (cnt off d.size) with
  |none=>exact⟨s,rfl⟩
  |some L=>
   dsimp only
   cases((cB b f ((off+d.size:Nat):Int)).2==4) with
   |true=>exact⟨s,rfl⟩
   |false=>
    rw [cond_false,cond_false]
    cases(L.isEmpty&&(cB b f ((off+d.size:Nat):Int)).2==0) with
    |false=>exact⟨s,rfl⟩
    |true=>exact⟨by rw [cond_true,cond_true,k3.fl];exact k3.sz _ _,rfl⟩
theorem bKZ(c:Dc)(h:Ok c)(hm:fZ c)(f off:Int)(d:ByteArray)(hd:d.size<=1000000):∃(a b:Dc) (e:Int),aM Tryz.prog 56 [] [.agg c.c,.int .i64 f,.int .i64 off,.str d] (.tup [.agg a.c,.int .i64 e]) []/\aM Tryz.prog 57 [] [.agg c.c,.int .i64 f,.int .i64 off,.str d] (.tup [.agg b.c,.int .i64 e]) []/\mZ a b/\Ok b:=by
 have k57:=bCA c h f off d hd
 have o:=aQM h f off d
 unfold aBL at k57 o
 cases hr:eX c f off d.size with
 |false=>
  rw [hr] at k57 o
  exact⟨_,_,_,bJP c h f off d (by omega) hr,k57,.x c,o⟩
 |true=>
  rw [hr] at k57 o
  obtain⟨f,off,n,rfl,rfl,e,hf,hb⟩:=dU hr
  have hb:off+d.size<=128:=by omega
  obtain⟨s1,s2⟩:=aSJ (mZ.x c) f off d
  have k56:=bMI c h hm f off d hf hb
  rw [s2] at k56
  exact⟨_,_,_,k56,k57,s1,o⟩
theorem bKB(c:Dc)(h:Ok c)(f off n:Int):∃(a b:Dc) (d:ByteArray) (e:Int),aM Tryz.prog 55 [] [.agg c.c,.int .i64 f,.int .i64 off,.int .i64 n] (.tup [.agg a.c,.str d,.int .i64 e]) []/\aM Tryz.prog 32 [] [.agg c.c,.int .i64 f,.int .i64 off,.int .i64 n] (.tup [.agg b.c,.str d,.int .i64 e]) []/\mZ a b/\Ok b:=by
 cases hr:eX c f off n with
 |false=>
  refine⟨_,c,_,_,bJO c h f off n hr,?_,.x c,h⟩
  have k115:=aHR c f
  have k125:=pJ off n
  unfold eX at hr
  cases hd:decide (0<=f/\f< (c.fl.length:Int)) with
  |false=>
   rw [hd] at k115
   refine aK (ob0:= []) [] Tryz.func32 rfl rfl rfl rfl ?_
   exact Wz
  |true=>
   rw [hd,cond_true] at hr
   rw [hd] at k115
   rw [hr] at k125
   refine aK (ob0:= []) [] Tryz.func32 rfl rfl rfl rfl ?_
   exact Wz
 |true=>
  obtain⟨f,off,n,rfl,rfl,rfl,hf,hb⟩:=dU hr
  have k55:=bMH c h f off n hf hb
  have k32:=bM7 c h f off n hf hb
  unfold aPU at k55
  unfold aPV at k32
  obtain⟨s1,s2⟩:=aPN (mZ.x c) f off (bS c f off n) (cnt off (bS c f off n))
  obtain⟨o1,-⟩:=aIE h f off (bS c f off n) (cnt off (bS c f off n))
  cases hL:eR c f off (bS c f off n) false (cnt off (bS c f off n)) with
  |none=>
   rw [hL] at k55 k32
   exact⟨_,_,_,_,k55,k32,.x c,h⟩
  |some L=>
   rw [hL] at k55 k32
   cases L with
   |nil=>
    dsimp only at k55 k32
    rw [s2] at k55
    exact⟨_,_,_,_,k55,k32,s1,o1⟩
   |cons y L=>exact⟨_,_,_,_,k55,k32,.x c,h⟩
theorem bGE(c:Dc)(h:Ok c)(f off n:Int):∃(w t:Int) (m:Bool),aM Tryz.prog 58 [] [.agg c.c,.int .i64 f,.int .i64 off,.int .i64 n] (.tup [.int .i64 w,.int .i64 t,.bool m]) []/\aM Tryz.prog 59 [] [.agg c.c,.int .i64 f,.int .i64 off,.int .i64 n] (.tup [.int .i64 w,.int .i64 t,.bool m]) []:=by
 cases hr:eX c f off n with
 |false=>
  refine⟨_,_,_,bJQ c f off n hr,?_⟩
  have k115:=aHR c f
  have k125:=pJ off n
  unfold eX at hr
  cases hd:decide (0<=f/\f< (c.fl.length:Int)) with
  |false=>
   rw [hd] at k115
   refine aK (ob0:= []) [] Tryz.func59 rfl rfl rfl rfl ?_
   exact Wz
  |true=>
   rw [hd,cond_true] at hr
   rw [hd] at k115
   rw [hr] at k125
   refine aK (ob0:= []) [] Tryz.func59 rfl rfl rfl rfl ?_
   exact Wz
 |true=>
  obtain⟨f,off,n,rfl,rfl,rfl,hf,hb⟩:=dU hr
  exact⟨_,_,_,bEW c h f off n hf hb,aZ1 c h f off n hf hb⟩
theorem bKR(c:Dc)(h:Ok c)(f e:Int):∃(p s:Int),aM Tryz.prog 60 [] [.agg c.c,.int .i64 f,.int .i64 e] (.tup [.int .i64 p,.int .i64 s]) []/\aM Tryz.prog 61 [] [.agg c.c,.int .i64 f,.int .i64 e] (.tup [.int .i64 p,.int .i64 s]) []:=by
 by_cases hf:0<=f/\f< (c.fl.length:Int)
 ·obtain⟨f,rfl⟩:∃a:Nat,f=(a:Int):=⟨f.toNat,by omega⟩
  have k61:=bEX c h f e (by omega)
  rw [aQA] at k61
  exact⟨_,_,bJR c h f e (by omega),k61⟩
 ·refine⟨_,_,bJS c f e hf,?_⟩
  have k115:=aHR c f
  rw [decide_eq_false hf] at k115
  rcases Nat.lt_or_ge f.toNat c.fl.length with hk |hk
  ·have hgf:=iS hk
   obtain⟨k0,k1,k2,k3,hfc,-⟩:=Df.cells (h.file _ hk).E
   rw [hfc] at hgf
   refine aK (ob0:= []) [] Tryz.func61 rfl rfl rfl rfl ?_
   exact Wz
  ·have hgf:(bA c.fl).getD f.toNat []=[]:=by simp [bA,zC,hk]
   refine aK (ob0:= []) [] Tryz.func61 rfl rfl rfl rfl ?_
   exact Wz
theorem bK3(c:Dc)(h:Ok c)(f off n:Int):∃(a b:Dc) (e:Int),aM Tryz.prog 62 [] [.agg c.c,.int .i64 f,.int .i64 off,.int .i64 n] (.tup [.agg a.c,.int .i64 e]) []/\aM Tryz.prog 63 [] [.agg c.c,.int .i64 f,.int .i64 off,.int .i64 n] (.tup [.agg b.c,.int .i64 e]) []/\mZ a b/\Ok b:=by
 have k62:=bMK c h f off n
 have k63:=bJT c h f off n
 have o:=aPJ h f off n
 unfold aVN at k62
 unfold vZ at k63 o
 cases hr:eX c f off n with
 |false=>
  rw [hr] at k62 k63
  exact⟨_,_,_,k62,k63,.x c,h⟩
 |true=>
  rw [hr] at k62 k63 o
  obtain⟨f,off,n,rfl,rfl,rfl,hf,hb⟩:=dU hr
  rw [cond_true] at k62 k63 o
  simp only [zA] at k62 k63 o
  have hrd:bS c f off n<=n:=by unfold bS;omega
  have s:=aA9 (mZ.x c) h hf (off:=off) (n:=bS c f off n) (by omega) _ (zD _)
  unfold bF1 at k62
  unfold aNN at k63 o
  cases hm:(cW c f off (bS c f off n) (cnt off (bS c f off n))).2.2 with
  |true=>
   rw [hm] at k62 k63 o
   exact⟨_,_,_,k62,k63,s,o⟩
  |false=>
   rw [hm] at k62 k63
   exact⟨_,_,_,k62,k63,.x c,h⟩
theorem bKT(c:Dc)(h:Ok c)(f z:Int):∃(a b:Dc) (e:Int),aM Tryz.prog 64 [] [.agg c.c,.int .i64 f,.int .i64 z] (.tup [.agg a.c,.int .i64 e]) []/\aM Tryz.prog 31 [] [.agg c.c,.int .i64 f,.int .i64 z] (.tup [.agg b.c,.int .i64 e]) []/\mZ a b/\Ok b:=by
 have k64:=bML c h f z
 have k31:=aZ0 c h f z
 have o:=aQE h f z
 unfold aWD at k64
 unfold rG at k31 o
 cases hr:eX c f z 0 with
 |false=>
  rw [hr] at k64 k31
  exact⟨_,_,_,k64,k31,.x c,h⟩
 |true=>
  rw [hr] at k64 k31 o
  obtain⟨f,z,n,rfl,rfl,-,hf,hb⟩:=dU hr
  have hz:z<=128:=by omega
  rw [cond_true] at k64 k31 o
  simp only [zA] at k64 k31 o
  obtain⟨s1,s2⟩:=aLN (mZ.x c) f (z:Int)
  have hs:=(h.file f hf).size
  unfold bFG at k64
  unfold aO2 at k31 o
  by_cases hlt:z< (c.fl.getD f aP).size
  ·have h0:cB c f (z:Int)=(c,0):=by
    unfold cB eZ
    rw [decide_eq_true (by omega)];rfl
   have hrd:bS c f z (128-z)=bS c f z ((c.fl.getD f aP).size-z):=by unfold bS;omega
   rw [decide_eq_true hlt,cond_true] at k64
   rw [h0] at k31 o
   dsimp only at k31 o
   rw [hrd] at k31 o
   have hle:bS c f z ((c.fl.getD f aP).size-z)<=128-z:=by unfold bS;omega
   have s:=aA9 (mZ.x c) h hf (off:=z) (n:=bS c f z ((c.fl.getD f aP).size-z)) (by omega) _ (zD _)
   cases hm:(cW c f z (bS c f z ((c.fl.getD f aP).size-z)) (cnt z (bS c f z ((c.fl.getD f aP).size-z)))).2.2 with
   |true=>
    rw [hm] at k64 k31 o
    exact⟨_,_,_,k64,k31,s.sz _ _,o⟩
   |false=>
    rw [hm] at k64 k31 o
    exact⟨_,_,_,k64,k31,.x c,o⟩
  ·rw [decide_eq_false hlt,cond_false] at k64
   have h0:bS c f z (128-z)=0:=by unfold bS;omega
   have hsz:((cB c f (z:Int)).1.fl.getD f aP).size=(c.fl.getD f aP).size:=by
    unfold cB
    split
    ·rfl
    ·split
     ·rfl
     ·cases(jC false _ _==0)
      ·rfl
      ·exact aEW _ _ _ _
   have h1:bS (cB c f (z:Int)).1 f z (128-z)=0:=by unfold bS;rw [hsz];omega
   rw [h0,h1] at k31 o
   rw [aIR] at s2
   rw [s2] at k64
   cases hg:((cB c f (z:Int)).2==0) with
   |true=>
    rw [hg] at k64 k31 o
    exact⟨_,_,_,k64,k31,s1.sz _ _,o⟩
   |false=>
    rw [hg] at k64 k31 o
    exact⟨_,_,_,k64,k31,.x c,o⟩
theorem bK1(off n:Int):∃(k:Nat) (b:Bool) (R:List (List V)),R.length<=8/\aM Tryz.prog 65 [] [.int .i64 off,.int .i64 n] (.lst k b R) []/\aM Tryz.prog 66 [] [.int .i64 off,.int .i64 n] (.lst k b R) []:=by
 cases hr:gE off n with
 |false=>exact⟨_,_,_,by simp,aVG off n (.inr hr),bCC off n (.inr hr)⟩
 |true=>
  obtain⟨off,n,rfl,rfl,hb⟩:=aHD hr
  refine⟨_,_,_,?_,bCB off n hb,aGO off n hb⟩
  have :=fK hb
  simp [pgR,aE]
  omega
theorem bKU(c:Dc)(h:Ok c)(f off n:Int)(w:Bool):∃(k:Nat) (b:Bool) (R:List (List V)) (e:Int),aM Tryz.prog 52 [] [.agg c.c,.int .i64 f,.int .i64 off,.int .i64 n,.bool w] (.tup [.lst k b R,.int .i64 e]) []/\aM Tryz.prog 53 [] [.agg c.c,.int .i64 f,.int .i64 off,.int .i64 n,.bool w] (.tup [.lst k b R,.int .i64 e]) []/\(k=0/\b=true/\R=[]\/∃L:List (Nat×Nat),k=2/\b=false/\R=nR L/\L.length<=8):=by
 cases hr:eX c f off n with
 |false=>
  refine⟨_,_,_,_,bJM c f off n w hr,?_,.inl ⟨rfl,rfl,rfl⟩⟩
  have k115:=aHR c f
  have k125:=pJ off n
  unfold eX at hr
  cases hd:decide (0<=f/\f< (c.fl.length:Int)) with
  |false=>
   rw [hd] at k115
   refine aK (ob0:= []) [] Tryz.func53 rfl rfl rfl rfl ?_
   exact Wz
  |true=>
   rw [hd,cond_true] at hr
   rw [hd] at k115
   rw [hr] at k125
   refine aK (ob0:= []) [] Tryz.func53 rfl rfl rfl rfl ?_
   exact Wz
 |true=>
  obtain⟨f,off,n,rfl,rfl,rfl,hf,hb⟩:=dU hr
  have k52:=bEU c h f off n hf hb w
  have k53:=bEV c h f off n hf hb w
  have hc:=fK hb
  cases hL:eR c f off n w (cnt off n) with
  |none=>
   rw [hL] at k52 k53
   exact⟨_,_,_,_,k52,k53,.inl ⟨rfl,rfl,rfl⟩⟩
  |some L=>
   rw [hL] at k52 k53
   have :=lD hL
   exact⟨_,_,_,_,k52,k53,.inr ⟨L,rfl,rfl,rfl,by omega⟩⟩
def bN1:RC:=
 (.seq
 (.reg [⟨(some 4),none,(.mv (.c (.bool false)))⟩] [])
 (.seq
 (.seq
 (.reg [⟨(some 6),none,(.mv (.t 0))⟩,
   ⟨(some 7),none,(.len (.t 6))⟩,
   ⟨(some 8),none,(.mv (.t 1))⟩,
   ⟨(some 9),none,(.len (.t 8))⟩,
   ⟨(some 10),none,(.bin .neq (.t 7) (.t 9))⟩] [6,7,8,9])
 (.cond (.t 10)
  (.seq
  (.reg [⟨(some 4),none,(.mv (.c (.bool false)))⟩] [])
  .ret)
  .skip))
 (.seq
 (.seq
 (.reg [⟨(some 5),none,(.mv (.c (.int .i64 0)))⟩] [])
 (.block 0
  (.loop
   (.seq
   (.seq
   (.reg [⟨(some 11),none,(.mv (.t 5))⟩,
     ⟨(some 12),none,(.mv (.t 0))⟩,
     ⟨(some 13),none,(.len (.t 12))⟩,
     ⟨(some 14),none,(.bin .lss (.t 11) (.t 13))⟩] [11,12,13])
   (.cond (.t 14)
    .skip
    (.exit 0)))
   (.seq
   (.block 1
    (.seq
    (.dreg 7168 7312 [⟨(some 17),none,(.mv (.t 0))⟩,
      ⟨(some 18),none,(.mv (.t 5))⟩,
      ⟨(some 19),none,(.iaddr 2 (.t 17) (.t 18))⟩,
      ⟨(some 20),none,(.ld true 2 (.t 19))⟩,
      ⟨(some 21),none,(.mv (.t 1))⟩,
      ⟨(some 22),none,(.mv (.t 5))⟩,
      ⟨(some 23),none,(.iaddr 2 (.t 21) (.t 22))⟩,
      ⟨(some 24),none,(.ld true 2 (.t 23))⟩,
      ⟨(some 25),none,(.eqs true [(0,.i),(1,.i)] (.t 20) (.t 24))⟩] [17,18,19,20,21,22,23,24] [[],[],[0,1],[2,1,0],[],[],[4,5],[6,5,4],[3,0,1,2,7,4,5,6]] [7168,7184,7200,7216,7232,7248,7264,7280,7296])
    (.cond (.t 25)
     (.seq
     (.reg [⟨(some 4),none,(.mv (.c (.bool false)))⟩] [])
     .ret)
     .skip)))
   (.reg [⟨(some 15),none,(.mv (.t 5))⟩,
     ⟨(some 16),none,(.bin .add (.t 15) (.c (.int .i64 1)))⟩,
     ⟨(some 5),none,(.mv (.t 16))⟩] [15,16]))))))
 (.seq
 (.reg [⟨(some 4),none,(.mv (.c (.bool true)))⟩] [])
 .ret))))
theorem bCF:cZ Go.Proofs.Tryz.prog Go.Proofs.Tryz.f54.ntmps ((Go.Proofs.Tryz.f54.body).getD .skip)=some (strip bN1):=by kernel_rfl
theorem bJN:aM Tryz.prog 54 [] [.lst 0 true [],.lst 0 true []] (.bool true) []:=by
 refine aK (ob0:= []) [] Tryz.func54 rfl rfl (tL bCF rfl) rfl ?_
 refine Wy ?_
 refine Lp (λ_:Unit=>True) (λ_=> [(5,.int .i64 0)]) (λ_=> []) (λ_=>0) () trivial ?_ ?_
 ·exact Vr []
 intro _ _
 exact jR
theorem bMG(L:List (Nat×Nat))(hl:L.length<=8):aM Tryz.prog 54 [] [.lst 2 false (nR L),.lst 2 false (nR L)] (.bool true) []:=by
 have hn:(nR L).length=L.length:=by simp [nR]
 refine aK (ob0:= []) [] Tryz.func54 rfl rfl (tL bCF rfl) rfl ?_
 refine Wy ?_
 refine Lp (λi:Nat=>i<=L.length) (λi=> [(5,.int .i64 (i:Int))]) (λi=> []) (λi=>L.length-i) 0 (Nat.zero_le _) ?_ ?_
 ·exact Vr []
 intro i hi
 refine Wy ?_
 refine fP (λb=>?_) (λb=>?_)
 ·have b:i<L.length:=by omega
  have hg:(nR L).getD i []=[.int .i64 ((L.getD i (0,0)).1:Int),.int .i64 ((L.getD i (0,0)).2:Int)]:=by
   simp [nR,zC,b]
  generalize L.getD i (0,0)=x at *
  refine Wy ?_
  refine Le (i+1) (hv:=?_)
  exact Vr []
 exact jR
end Go.Proofs.YtmhapcbjjpadnaaGreat
