/- Caches. -/
import Derived.Test.YtmhapcbjjpadnaaGreatGTm
import Derived.Test.YtmhapcbjjpadnaaGreatGHm
import Derived.Test.YtmhapcbjjpadnaaGreatGPm
set_option linter.unusedSimpArgs false
set_option linter.unusedVariables false
open Int renaming toNat_natCast→zA
set_option linter.constructorNameAsVariable false
set_option maxRecDepth 40000
namespace Go.Proofs.YtmhapcbjjpadnaaGreat
open Go Go.Sk Go.RowKit
theorem aKU(c:Dc)(f off n:Nat):∀k,eI c.x f off n k=eI c f off n k
 |0=>rfl
 |k+1=>by rw [eI,eI,aKU c f off n k];rfl
def bCW(c:Dc)(f off n:Nat):Dc×Int:=bif (eI c f off (bY c f off n) (cnt off (bY c f off n))).2.2 then(jP c.x f off (bY c f off n) (cnt off (bY c f off n)),0) else(c.x,7)
def aU0(c:Dc)(f off n:Int):Dc×Int:=bif jA c f off n then bCW c f.toNat off.toNat n.toNat else(c.x,2)
noncomputable def R62:aHJ Tryz.prog Tryz.f62 [] 4:=⟨_,_,_,_,_,_,_,rfl,rfl,rfl⟩
set_option maxHeartbeats 4000000 in
theorem bJA(c:Dc)(h:Ok c)(f off n:Int):aQ Tryz.prog 62 [] [.agg c.c,.int .i64 f,.int .i64 off,.int .i64 n] (.tup [.agg (aU0 c f off n).1.c,.int .i64 (aU0 c f off n).2]) []:=by
 have k82:=aE6 c h
 have k141:=aWO c f
 have k161:=uL off n
 generalize hq:aU0 c f off n=q
 unfold aU0 at hq
 cases hr:jA c f off n with
 |false=>
  rw [hr,cond_false] at hq
  subst hq
  unfold jA at hr
  cases hd:decide (0≤f∧f< (c.fl.length:Int)) with
  |false=>
   rw [hd] at k141
   refine bD R62 (ob0:= []) aV Tryz.func62 rfl rfl rfl ?_
   exact eR
  |true=>
   rw [hd,cond_true] at hr
   rw [hd] at k141
   rw [hr] at k161
   refine bD R62 (ob0:= []) aV Tryz.func62 rfl rfl rfl ?_
   exact eR
 |true=>
  rw [hr,cond_true] at hq
  obtain⟨f,off,n,rfl,rfl,rfl,hf,hb⟩:=eC hr
  rw [decide_eq_true (by omega)] at k141
  rw [sU hb] at k161
  simp only [zA] at hq
  have k58:=bGN c h f off n hf hb
  have k172:=aZP c.x h.x f off n hf hb
  rw [show bY c.x f off n=bY c f off n from rfl,aKU] at k172
  unfold bCW at hq
  unfold aW5 at k58
  generalize eI c f off (bY c f off n) (cnt off (bY c f off n))=x at *
  generalize jP c.x f off (bY c f off n) (cnt off (bY c f off n))=W at *
  obtain⟨w,t,m⟩:=x
  dsimp only at *
  cases m with
  |true=>
   have k172:=k172 rfl
   subst hq
   refine bD R62 (ob0:= []) aV Tryz.func62 rfl rfl rfl ?_
   exact eR
  |false=>
   subst hq
   refine bD R62 (ob0:= []) aV Tryz.func62 rfl rfl rfl ?_
   exact eR
def bDF(c:Dc)(f z:Nat):Dc×Int:=bif decide (z< (c.fl.getD f aK).size) then
    (bif (eI c f z (bY c f z ((c.fl.getD f aK).size-z)) (cnt z (bY c f z ((c.fl.getD f aK).size-z)))).2.2 then((jP c.x f z (bY c f z ((c.fl.getD f aK).size-z)) (cnt z (bY c f z ((c.fl.getD f aK).size-z)))).sz f z,0) else(c.x,7))
 else bif (gN c f (z:Int)).2.2==0 then((bT c.x f (z:Int)).1.sz f z,0) else(c.x,(gN c f (z:Int)).2.2)
def aUQ(c:Dc)(f z:Int):Dc×Int:=bif jA c f z 0 then bDF c f.toNat z.toNat else(c.x,2)
theorem Ok.szb {c:Dc} (h:Ok c) {f n:Nat} (hf:f<c.fl.length):(c.sz f n).c=[.lst 15 false ((bG c.fl).set f (aR 15 (c.fl.getD f aK).c 6 [.int .i64 (n:Int)])),.lst 9 false (bE c.fr),.lst 6 false (aW c.zo),.lst 3 false (bP c.gr),.lst 3 false (cN c.ls),.lst 1 false (aJ c.ck),.lst 5 false (bQ c.pt)]:=by
 rw [bAQ hf (h.file f hf).E];rfl
theorem aYB {c:Dc} (h:Ok c) {f:Nat} {e:Int} (hf:f<c.fl.length)(g:(gN c f e).2.2=0):∃W:Dc,Ok W∧W.fl.length=c.fl.length∧(bT c.x f e).1=W∧aQ Tryz.prog 168 c.x.b [.ptr 0 0 0,.int .i64 (gN c f e).1,.int .i64 (gN c f e).2.1] (.tup []) W.b:=by
 rcases aET h hf g with ⟨e1,e2⟩| ⟨m,se,u,e1,q1,q2,q3,e2⟩
 ·rw [e1,e2]
  exact⟨_,h.x,rfl,rfl,aLF _ 0⟩
 ·rw [e1,e2,jN (c:=c.x) q2]
  exact⟨_,h.x.put' q1 q2 (rD (h.use m u q1 q2).pg q3),mJ _ _ _,rfl,aZO c.x h.x m u q1 q2 se q3⟩
noncomputable def R64:aHJ Tryz.prog Tryz.f64 [] 3:=⟨_,_,_,_,_,_,_,rfl,rfl,rfl⟩
set_option maxHeartbeats 8000000 in
theorem bJB(c:Dc)(h:Ok c)(f z:Int):aQ Tryz.prog 64 [] [.agg c.c,.int .i64 f,.int .i64 z] (.tup [.agg (aUQ c f z).1.c,.int .i64 (aUQ c f z).2]) []:=by
 have k82:=aE6 c h
 have k141:=aWO c f
 have k161:=uL z 0
 generalize hq:aUQ c f z=q
 unfold aUQ at hq
 cases hr:jA c f z 0 with
 |false=>
  rw [hr,cond_false] at hq
  subst hq
  unfold jA at hr
  cases hd:decide (0≤f∧f< (c.fl.length:Int)) with
  |false=>
   rw [hd] at k141
   refine bD R64 (ob0:= []) aV Tryz.func64 rfl rfl rfl ?_
   exact eR
  |true=>
   rw [hd,cond_true] at hr
   rw [hd] at k141
   rw [hr] at k161
   refine bD R64 (ob0:= []) aV Tryz.func64 rfl rfl rfl ?_
   exact eR
 |true=>
  rw [hr,cond_true] at hq
  obtain⟨f,z,n,rfl,rfl,hn0,hf,hb⟩:=eC hr
  have hn0:n=0:=by omega
  subst hn0
  have hz:z≤128:=by omega
  rw [decide_eq_true (by omega)] at k141
  rw [show oI (z:Int) 0=true from sU (off:=z) (n:=0) hb] at k161
  simp only [zA] at hq
  have k166:=aZM c h f (z:Int) hf
  have hgf:=mV hf
  have hs:=(h.file f hf).size
  obtain⟨k0,k1,k2,k3,hfc,-⟩:=Df.cells (h.file f hf).E
  rw [hfc] at hgf
  unfold bDF at hq
  by_cases hlt:z< (c.fl.getD f aK).size
  ·rw [decide_eq_true hlt,cond_true] at hq
   have hg0:gN c f (z:Int)=(0,0,0):=by
    unfold gN eN
    rw [decide_eq_true (by omega)];rfl
   rw [hg0] at k166
   have k58:=bGN c h f z ((c.fl.getD f aK).size-z) hf (by omega)
   have k172:=aZP c.x h.x f z ((c.fl.getD f aK).size-z) hf (by omega)
   have hsz:(((c.fl.getD f aK).size-z:Nat):Int)=((c.fl.getD f aK).size:Int)- (z:Int):=by omega
   clear hsz
   rw [show bY c.x f z ((c.fl.getD f aK).size-z)=bY c f z ((c.fl.getD f aK).size-z) from rfl,aKU] at k172
   have hrd:bY c f z ((c.fl.getD f aK).size-z)≤128-z:=by unfold bY;omega
   obtain⟨w1,w2,w3,-⟩:=aOQ h.x (f:=f) (off:=z) (n:=bY c f z ((c.fl.getD f aK).size-z)) hf (by omega) _ (Nat.le_refl _)
   unfold aW5 at k58
   generalize eI c f z (bY c f z ((c.fl.getD f aK).size-z)) (cnt z (bY c f z ((c.fl.getD f aK).size-z)))=x at *
   generalize jP c.x f z (bY c f z ((c.fl.getD f aK).size-z)) (cnt z (bY c f z ((c.fl.getD f aK).size-z)))=W at *
   obtain⟨w,t,m⟩:=x
   dsimp only at *
   cases m with
   |true=>
    have k172:=k172 rfl
    rw [cond_true] at hq
    have hfe:f<W.fl.length:=by rw [w2];exact hf
    have k168:=aLF W 0
    have hgw:=mV hfe
    have hwc:=w1.szb (n:=z) hfe
    obtain⟨j0,j1,j2,j3,hwf,-⟩:=Df.cells (w1.file f hfe).E
    rw [hwf] at hgw hwc
    subst hq
    rw [hwc]
    generalize(c.fl.getD f aK).size=y at *
    generalize(W.fl.getD f aK).size=y2 at *
    refine bD R64 (ob0:= []) aV Tryz.func64 rfl rfl rfl ?_
    exact eR
   |false=>
    rw [cond_false] at hq
    subst hq
    generalize(c.fl.getD f aK).size=y at *
    refine bD R64 (ob0:= []) aV Tryz.func64 rfl rfl rfl ?_
    exact eR
  ·rw [decide_eq_false hlt,cond_false] at hq
   by_cases g4:(gN c f (z:Int)).2.2=0
   ·obtain⟨W,w1,w2,w3,k168⟩:=aYB h hf g4
    rw [w3,beq_iff_eq.2 g4,cond_true] at hq
    rw [g4] at k166
    have hfe:f<W.fl.length:=by rw [w2];exact hf
    have hgw:=mV hfe
    have hwc:=w1.szb (n:=z) hfe
    obtain⟨j0,j1,j2,j3,hwf,-⟩:=Df.cells (w1.file f hfe).E
    rw [hwf] at hgw hwc
    subst hq
    rw [hwc]
    clear w3 g4
    generalize gN c f (z:Int)=g at *
    generalize(c.fl.getD f aK).size=y at *
    generalize(W.fl.getD f aK).size=y2 at *
    refine bD R64 (ob0:= []) aV Tryz.func64 rfl rfl rfl ?_
    exact eR
   ·rw [beq_eq_false_iff_ne.2 g4,cond_false] at hq
    subst hq
    generalize gN c f (z:Int)=g at *
    generalize(c.fl.getD f aK).size=y at *
    refine bD R64 (ob0:= []) aV Tryz.func64 rfl rfl rfl ?_
    exact eR
end Go.Proofs.YtmhapcbjjpadnaaGreat
set_option maxRecDepth 40000
namespace Go.Proofs.YtmhapcbjjpadnaaGreat
open Go Go.Sk Go.RowKit
theorem kI.put {a b:Dc} (s:kI a b)(m:Nat)(u:Us):kI (a.put m u) (b.put m u):=by
 obtain⟨fl,fr,za,gr,ls,ck,pt⟩:=a
 obtain⟨fl2,fr2,zb,gr2,ls2,ck2,pt2⟩:=b
 obtain⟨e1,e2,e3,e4,e5,e6,e7⟩:=s
 dsimp only at e1 e2 e3 e4 e5 e6 e7
 subst e1 e2 e4 e5 e6 e7
 exact⟨rfl,rfl,e3,rfl,rfl,rfl,rfl⟩
theorem kI.acc {a b:Dc} (s:kI a b)(m t:Nat):kI (a.acc m t) (b.acc m t):=⟨s.fl,s.fr,s.zo,s.gr,by unfold Dc.acc;dsimp only;rw [s.ls],s.ck,s.pt⟩
theorem kI.sz {a b:Dc} (s:kI a b)(f n:Nat):kI (a.sz f n) (b.sz f n):=⟨by unfold Dc.sz;dsimp only;rw [s.fl],s.fr,s.zo,s.gr,s.ls,s.ck,s.pt⟩
theorem aOU {a b:Dc} (s:kI a b)(f off:Nat)(d:ByteArray):∀k,kI (iZ a f off d k) (iZ b f off d k)
 |0=>s
 |k+1=>by
  have ih:=aOU s f off d k
  rw [iZ,iZ,ih.pg]
  cases cC (iZ b f off d k) f (off/16+k) with
  |none=>exact ih
  |some x=>exact(ih.put _ _).acc _ _
theorem aO4 {a b:Dc} (s:kI a b)(f off n:Nat):∀k,kI (mY a f off n k).1 (mY b f off n k).1∧(mY a f off n k).2=(mY b f off n k).2
 |0=>⟨s,rfl⟩
 |k+1=>by
  obtain⟨i1,i2⟩:=aO4 s f off n k
  rw [mY,mY,s.pg]
  cases cC b f (off/16+k) with
  |none=>exact⟨i1,i2⟩
  |some x=>exact⟨i1.acc _ _,by dsimp only;rw [i2]⟩
theorem aJS {a b:Dc} (s:kI a b)(f:Nat)(e:Int):kI (bT a f e).1 (bT b f e).1∧(bT a f e).2=(bT b f e).2:=by
 unfold bT
 rw [s.fl]
 cases eN (b.fl.getD f aK) e with
 |none=>exact⟨s,rfl⟩
 |some x=>
  dsimp only
  rw [s.pg]
  cases cC b f x.1 with
  |none=>exact⟨s,rfl⟩
  |some y=>
   dsimp only
   cases(gP false x.2 y.2.p.v==0) with
   |false=>exact⟨s,rfl⟩
   |true=>exact⟨s.put _ _,rfl⟩
theorem aUU {a b:Dc} (s:kI a b)(f off n:Nat)(w:Bool)(k:Nat):fK a f off n w k=fK b f off n w k:=aM6 (fun p=>by rw [s.pg]) k
theorem aQV {a b:Dc} (s:kI a b)(f off:Nat)(d:ByteArray):kI (lM a f off d).1 (lM b f off d).1∧(lM a f off d).2=(lM b f off d).2:=by
 obtain⟨k1,k2⟩:=aJS s f ((off+d.size:Nat):Int)
 have k3:=aOU k1 f off d (cnt off d.size)
 unfold lM
 rw [aUU s,k2]
 cases(d.size==0) with
 |true=>exact⟨s,rfl⟩
 |false=>
  rw [cond_false,cond_false]
  cases fK b f off d.size true (cnt off d.size) with
  |none=>exact⟨s,rfl⟩
  |some L=>
   dsimp only
   cases((bT b f ((off+d.size:Nat):Int)).2==4) with
   |true=>exact⟨s,rfl⟩
   |false=>
    rw [cond_false,cond_false]
    cases(L.isEmpty&&(bT b f ((off+d.size:Nat):Int)).2==0) with
    |false=>exact⟨s,rfl⟩
    |true=>exact⟨by rw [cond_true,cond_true,k3.fl];exact k3.sz _ _,rfl⟩
end Go.Proofs.YtmhapcbjjpadnaaGreat
