/- Caches. -/
import Derived.Test.YtmhapcbjjpadnaaGreatGFb
set_option linter.all false
set_option maxHeartbeats 8000000
set_option maxRecDepth 40000
open Bool renaming or_false→zI
open List renaming length_set→zA
open Nat renaming zero_testBit→zC,testBit_or→zD,le_of_not_lt→zE,zero_lt_succ→zF,pow_lt_pow_right→zG,testBit_two_pow→zH,or_lt_two_pow→zJ,le_refl→zK
namespace Go.Proofs.YtmhapcbjjpadnaaGreat
open Go Go.Sk Go.RowKit
theorem bK5(c:Dc)(m:Nat)(u:Us)(f p:Nat):(((c.put m u).fl.getD f aP).E p).1=((c.fl.getD f aP).E p).1:=by
 show(((c.fl.set u.file (eP (c.fl.getD u.file aP) (mE (c.fl.getD u.file aP).E u))).getD f aP).E p).1=_
 by_cases e:f=u.file
 ·subst e
  by_cases hl:u.file<c.fl.length
  ·rw [aJ _ _ _ _ hl,fO,aAW]
  ·rw [jI _ _ (zE hl)]
 ·rw [getD_set_ne _ _ _ e]
@[simp] theorem nP (c:Dc) (m:Nat) (u:Us):(c.put m u).fl.length=c.fl.length:=zA ..
@[simp] theorem tJ (c:Dc) (m:Nat) (u:Us):(c.put m u).fr.length=c.fr.length:=zA ..
theorem aD4 {c:Dc} (h:Ok c) {m:Nat} {u u':Us} (hm:m<c.fr.length)(hu:c.fr.getD m none=some u)(f p:Nat)(hf:f<c.fl.length):eA (c.put m u') f p=if f=u.file/\p=u.page then some (m,u') else eA c f p:=by
 have k:=h.use m u hm hu
 unfold eA
 rw [bK5]
 have e:∀j,(c.put m u').fr.getD j none=if j=m then some u' else c.fr.getD j none:=λj=>by
  show(c.fr.set m (some u')).getD j none=_
  by_cases e:j=m
  ·subst e;rw [aJ _ _ _ _ hm,if_pos rfl]
  ·rw [getD_set_ne _ _ _ e,if_neg e]
 rw [e]
 by_cases e1:f=u.file/\p=u.page
 ·obtain⟨rfl,rfl⟩:=e1
  rw [k.val,decide_eq_true (by omega),cond_true,show(((m+1:Nat):Int)-1).toNat=m by omega,if_pos rfl,if_pos (And.intro rfl rfl)];rfl
 ·rw [if_neg e1]
  cases hd:decide (0< ((c.fl.getD f aP).E p).1) with
  |false=>rfl
  |true=>
   obtain⟨n,w,k1,k2,k3,k4,k5⟩:=h.ent f p hf (of_decide_eq_true hd)
   rw [k2,show(((n+1:Nat):Int)-1).toNat=n by omega,if_neg]
   rintro rfl
   rw [hu] at k3
   injection k3 with k3
   subst k3
   exact e1 ⟨k4.symm,k5.symm⟩
theorem tO {c:Dc} {f off n:Nat} {w:Bool} :∀ {j:Nat},eR c f off n w j=some []->∀k,k<j->∀m u,eA c f (off/16+k)=some (m,u)->fT u off n (off/16+k) w=0
 |0,_,k,hk=>by omega
 |j+1,h,k,hk=>by
  intro m u hp
  rw [eR] at h
  split at h
  ·rename_i L0 m' u' h1 h2
   have h:=Option.some.inj h
   cases hz:(fT u' off n (off/16+j) w==0) with
   |false=>rw [hz,cond_false] at h;simp at h
   |true=>
    rw [hz,cond_true] at h
    subst h
    by_cases e:k=j
    ·subst e
     rw [h2] at hp
     obtain⟨rfl,rfl⟩:=Prod.mk.inj (Option.some.inj hp)
     exact beq_iff_eq.1 hz
    ·exact tO h1 k (by omega) m u hp
  ·cases h
theorem aLY {b s:ByteArray} {off:Nat} (h:off+s.size<=b.size):(aBK b off s).size=b.size:=by
 unfold aBK
 rw [kP,kP,cF,cF];omega
theorem lP {p:Pg} (h:dI p) {off:Nat} {s:ByteArray} (hr:off+s.size<=16):dI (dP p off s):=by
 have ht:tch off s.size<4:=(lJ off s.size (zK 2)).1
 have key:∀v d t:Fin 4,jC false d.val v.val=0->(v.val ||| t.val)<4/\(d.val ||| t.val)<4/\jC false (d.val ||| t.val) (v.val ||| t.val)=0:=by decide
 obtain⟨h1,h2,h3⟩:=key ⟨p.v,h.v⟩ ⟨p.d,h.d⟩ ⟨tch off s.size,ht⟩ h.sub
 exact⟨by show(aBK p.b off s).size=16;rw [aLY (by rw [h.size];exact hr),h.size],h1,h2,h3⟩
def gO(p off n:Nat):Nat:=p*16+(aO p off n).1-off
def kI(c:Dc)(f off:Nat)(s:ByteArray):Nat->Dc
 |0=>c
 |k+1=>match eA (kI c f off s k) f (off/16+k) with
  |some (m,u)=>((kI c f off s k).put m (dQ u (dP u.p (aO (off/16+k) off s.size).1 (s.extract (gO (off/16+k) off s.size) (gO (off/16+k) off s.size+(aO (off/16+k) off s.size).2))))).acc m u.ten
  |none=>kI c f off s k
theorem aN2 {off n k:Nat} (hk:k<cnt off n):gO (off/16+k) off n+(aO (off/16+k) off n).2<=n/\off<=(off/16+k)*16+(aO (off/16+k) off n).1:=by
 have :=eY hk
 unfold gO
 omega
theorem aJ2 {s:ByteArray} {off k:Nat} (hk:k<cnt off s.size):(s.extract (gO (off/16+k) off s.size) (gO (off/16+k) off s.size+(aO (off/16+k) off s.size).2)).size=(aO (off/16+k) off s.size).2:=by
 have :=aN2 hk
 rw [cF];omega
theorem Ok.put' {c:Dc} (h:Ok c) {n:Nat} {u:Us} {p:Pg} (hn:n<c.fr.length)(hu:c.fr.getD n none=some u)(hp:dI p):Ok (c.put n (dQ u p)):=
 have k:=h.use n u hn hu
 h.put hn hu rfl hp k.holds k.rd k.wr
theorem qV {c:Dc} (h:Ok c) {f off:Nat} {s:ByteArray} (hf:f<c.fl.length)(hb:off+s.size<=128):∀k,k<=cnt off s.size->Ok (kI c f off s k)/\(kI c f off s k).fl.length=c.fl.length/\∀i,k<=i->eA (kI c f off s k) f (off/16+i)=eA c f (off/16+i)
 |0,_=>⟨h,rfl,λ_ _=>rfl⟩
 |k+1,hk=>by
  obtain⟨h1,h2,h3⟩:=qV h hf hb k (by omega)
  rw [kI]
  split
  ·rename_i m u hp
   have hf1:f< (kI c f off s k).fl.length:=by rw [h2];exact hf
   obtain⟨q1,q2,q3,q4,q5⟩:=bM h1 hf1 hp
   have hu:=h1.use m u q1 q2
   have hw:=lP hu.pg (off:=(aO (off/16+k) off s.size).1) (s:=s.extract (gO (off/16+k) off s.size) (gO (off/16+k) off s.size+(aO (off/16+k) off s.size).2)) (by rw [aJ2 hk];exact(eY hk).1)
   refine⟨(h1.put' q1 q2 hw).acc _ _,by show((kI c f off s k).put _ _).fl.length=_;rw [nP];exact h2,λi hi=>?_⟩
   show eA ((kI c f off s k).put _ _) f (off/16+i)=_
   rw [aD4 h1 q1 q2 f _ hf1,if_neg (by rw [q4];omega),h3 i (by omega)]
  ·exact⟨h1,h2,λi hi=>h3 i (by omega)⟩
theorem bHP(c:Dc)(h:Ok c)(f off:Nat)(s:ByteArray)(hf:f<c.fl.length)(hb:off+s.size<=128)(hL:eR c f off s.size true (cnt off s.size)=some []):aM Tryz.prog 169 [] [.agg c.c,.int .i64 (f:Int),.int .i64 (off:Int),.str s] (.agg (kI c f off s (cnt off s.size)).c) []:=by
 have k66:=aGO off s.size hb
 have hcn:=fK hb
 refine aK (ob0:= []) [] Tryz.func169 rfl rfl rfl rfl ?_
 refine Wx ?_
 refine Lp (λi:Nat=>i<=cnt off s.size) (λi=> [(10,.int .i64 (i:Int))]) (λi=> [(0,.box (kI c f off s i).c)]) (λi=>cnt off s.size-i) 0 (Nat.zero_le _) ?_ ?_
 ·exact Vr [_,_]
 intro i hi
 refine Wx ?_
 refine fP (λb=>?_) (λb=>?_)
 ·have b:i<cnt off s.size:=by omega
  have hg:=tH (off/16) (cnt off s.size) i b
  have k126:=aEK (show off+s.size<=128 by omega) b
  obtain⟨m,u,hp⟩:=pS hL i b
  obtain⟨o1,o2,o3⟩:=qV h hf hb i hi
  have hz:=tO hL i b m u hp
  rw [<-o3 i (zK i)] at hp
  have hst:kI c f off s (i+1)=((kI c f off s i).put m (dQ u (dP u.p (aO (off/16+i) off s.size).1 (s.extract (gO (off/16+i) off s.size) (gO (off/16+i) off s.size+(aO (off/16+i) off s.size).2))))).acc m u.ten:=by rw [kI,hp]
  have hfi:=aN2 b
  have hfe:gO (off/16+i) off s.size=(off/16+i)*16+(aO (off/16+i) off s.size).1-off:=rfl
  have hsz:=aJ2 (s:=s) (off:=off) b
  have hpi:=eY b
  generalize kI c f off s i=d at *
  have hf1:f<d.fl.length:=by rw [o2];exact hf
  have k33:=o1.f33s hf1 hp
  obtain⟨q1,q2,q3,q4,q5⟩:=bM o1 hf1 hp
  have hu:=o1.use m u q1 q2
  have hgu:=jB q1 q2
  have hnr:=o1.nr
  unfold fT at hz
  rw [<-hsz] at hz
  have k220:=bBH u.p hu.pg _ _ (by rw [hsz];exact hpi.1) hz
  rw [hsz] at hz
  have hw:=lP hu.pg (off:=(aO (off/16+i) off s.size).1) (s:=s.extract (gO (off/16+i) off s.size) (gO (off/16+i) off s.size+(aO (off/16+i) off s.size).2)) (by rw [hsz];exact hpi.1)
  have k155:=o1.p155 (u':=dQ u (dP u.p (aO (off/16+i) off s.size).1 (s.extract (gO (off/16+i) off s.size) (gO (off/16+i) off s.size+(aO (off/16+i) off s.size).2)))) q1 q2 rfl hw hu.rd hu.wr
  have o4:=o1.put' q1 q2 hw
  have k127:=o4.a127 (n:=m) (u:=dQ u (dP u.p (aO (off/16+i) off s.size).1 (s.extract (gO (off/16+i) off s.size) (gO (off/16+i) off s.size+(aO (off/16+i) off s.size).2)))) (by rw [tJ];exact q1) (aJ _ _ _ _ q1)
  refine Wx ?_
  refine Le (i+1) (hv:=?_)
  simp only [hst]
  exact Vr [_,_]
 obtain rfl:i=cnt off s.size:=by omega
 exact Wz
def fsz(f:Df)(n:Nat):Df:=⟨f.dev,f.slot,f.E,n,f.blocks,f.ec,f.ee⟩
def Dc.sz(c:Dc)(f n:Nat):Dc:=⟨c.fl.set f (fsz (c.fl.getD f aP) n),c.fr,c.zo,c.gr,c.ls,c.ck,c.pt⟩
theorem Ok.sz {c:Dc} (h:Ok c) {f n:Nat} (hf:f<c.fl.length)(hn:n<=128):Ok (c.sz f n):=by
 refine h.same (zA ..) (λg p=>?_) (λg hg=>?_) rfl (λ_=>rfl) (λm v hm hv=>?_) rfl rfl rfl h.ls (λ_ _ hx=>hx) rfl h.pt
 ·show(((c.fl.set f (fsz (c.fl.getD f aP) n)).getD g aP).E p).1=_
  by_cases e:g=f
  ·subst e;rw [aJ _ _ _ _ hf];rfl
  ·rw [getD_set_ne _ _ _ e]
 ·show OkF ((c.fl.set f (fsz (c.fl.getD f aP) n)).getD g aP)
  by_cases e:g=f
  ·subst e;rw [aJ _ _ _ _ hf]
   have k:=h.file g hg
   exact⟨k.E,k.sup,k.lo,hn,k.blocks,k.ec,k.ee⟩
  ·rw [getD_set_ne _ _ _ e];exact h.file g hg
 ·have :=h.use m v hm hv
  exact⟨this.pg,this.holds,this.rd,this.wr⟩
def jS(c:Dc)(f off:Nat)(s:ByteArray):Dc×Int:=bif s.size==0 then(c,0) else
 match eR c f off s.size true (cnt off s.size),(cB c f ((off+s.size:Nat):Int)).2 with
 |none,_=>(c,4)
 |some L,g=>bif g==4 then(c,4) else bif L.isEmpty&&g==0 then((kI (cB c f ((off+s.size:Nat):Int)).1 f off s (cnt off s.size)).sz f (max ((kI (cB c f ((off+s.size:Nat):Int)).1 f off s (cnt off s.size)).fl.getD f aP).size (off+s.size)),0) else(c,7)
theorem qU {c:Dc} (h:Ok c) {f:Nat} (e:Int)(hf:f<c.fl.length):Ok (cB c f e).1/\(cB c f e).1.fl.length=c.fl.length/\((cB c f e).2=0\/(cB c f e).2=4\/(cB c f e).2=7)/\((cB c f e).2≠0->(cB c f e).1=c):=by
 unfold cB
 split
 ·exact⟨h,rfl,.inl rfl,λ_=>rfl⟩
 ·rename_i p s ht
  obtain⟨t1,t2,t3,t4,t5⟩:=mQ ht (h.file f hf).size
  split
  ·exact⟨h,rfl,.inr (.inl rfl),λ_=>rfl⟩
  ·rename_i m u hp
   obtain⟨q1,q2,q3,q4,q5⟩:=bM h hf hp
   have hu:=h.use m u q1 q2
   cases(jC false s u.p.v==0) with
   |true=>exact⟨h.put' q1 q2 (mO hu.pg t3),nP _ _ _,.inl rfl,λk=>absurd rfl k⟩
   |false=>exact⟨h,rfl,.inr (.inr rfl),λ_=>rfl⟩
theorem aZ6 {c:Dc} (h:Ok c) {f:Nat} (e:Int)(hf:f<c.fl.length)(p:Nat):(eA (cB c f e).1 f p).map (λx=>(x.1,x.2.p.v))=(eA c f p).map (λx=>(x.1,x.2.p.v)):=by
 unfold cB
 split
 ·rfl
 ·rename_i pp s ht
  split
  ·rfl
  ·rename_i m u hp
   obtain⟨q1,q2,q3,q4,q5⟩:=bM h hf hp
   cases(jC false s u.p.v==0) with
   |false=>rfl
   |true=>
    show(eA (c.put m (dQ u (gR u.p s))) f p).map _=_
    rw [aD4 h q1 q2 f p hf]
    by_cases e1:f=u.file/\p=u.page
    ·rw [if_pos e1,e1.2,q4,hp];rfl
    ·rw [if_neg e1]
theorem aIX {c d:Dc} {f off n:Nat} {w:Bool} (h:∀p,(eA d f p).map (λx=>(x.1,x.2.p.v))=(eA c f p).map (λx=>(x.1,x.2.p.v))):∀k,eR d f off n w k=eR c f off n w k
 |0=>rfl
 |k+1=>by
  have hk:=h (off/16+k)
  rw [eR,eR,aIX h k]
  cases h1:eA d f (off/16+k) with
  |none=>
   rw [h1] at hk
   cases h2:eA c f (off/16+k) with
   |none=>rfl
   |some y=>rw [h2] at hk;cases hk
  |some x=>
   rw [h1] at hk
   cases h2:eA c f (off/16+k) with
   |none=>rw [h2] at hk;cases hk
   |some y=>
    rw [h2] at hk
    obtain⟨m,u⟩:=x
    obtain⟨m',u'⟩:=y
    simp only [Option.map_some,Option.some.injEq,Prod.mk.injEq] at hk
    obtain⟨rfl,hv⟩:=hk
    cases eR c f off n w k with
    |none=>rfl
    |some L=>
     have e:fT u off n (off/16+k) w=fT u' off n (off/16+k) w:=by unfold fT kX;rw [hv]
     dsimp only
     rw [e]
end Go.Proofs.YtmhapcbjjpadnaaGreat
namespace Go.Proofs.YtmhapcbjjpadnaaGreat
open Go Go.Sk Go.RowKit
theorem aPL {L:List Df} {f n:Nat} (h:f<L.length)(hE:bH (L.getD f aP).E):(bA L).set f (aU 15 (L.getD f aP).c 6 [.int .i64 (n:Int)])=bA (L.set f (fsz (L.getD f aP) n)):=by
 rw [bA,bA,List.map_set]
 obtain⟨k0,k1,k2,k3,e,-⟩:=Df.cells hE
 obtain⟨q0,q1,q2,q3,e',e2⟩:=Df.cells (f:=fsz (L.getD f aP) n) hE
 obtain⟨k0,k1,k2,k3,e,e3⟩:=Df.cells hE
 congr 1
 unfold Df.c fsz
 dsimp only
 rw [e3]
 rfl
theorem bMJ(c:Dc)(h:Ok c)(f off:Nat)(s:ByteArray)(hf:f<c.fl.length)(hb:off+s.size<=128):aM Tryz.prog 57 [] [.agg c.c,.int .i64 (f:Int),.int .i64 (off:Int),.str s] (.tup [.agg (jS c f off s).1.c,.int .i64 (jS c f off s).2]) []:=by
 have k115:=aBY c f hf
 have k125:=pJ (off:Int) (s.size:Int)
 rw [iN hb] at k125
 have k53:=bEV c h f off s.size hf hb true
 have k123:=bAT c h f ((off+s.size:Nat):Int) hf
 obtain⟨o1,o2,o3,o4⟩:=qU h ((off+s.size:Nat):Int) hf
 have hun:=λk=>aIX (c:=c) (off:=off) (n:=s.size) (w:=true) (aZ6 h ((off+s.size:Nat):Int) hf) k
 generalize hq:jS c f off s=q
 unfold jS at hq
 by_cases hz:s.size=0
 ·rw [beq_iff_eq.2 hz,cond_true] at hq
  subst hq
  refine aK (ob0:= []) [] Tryz.func57 rfl rfl rfl rfl ?_
  exact Wz
 rw [beq_eq_false_iff_ne.2 hz,cond_false] at hq
 generalize cB c f ((off+s.size:Nat):Int)=x at *
 obtain⟨d,g⟩:=x
 dsimp only at *
 cases hL:eR c f off s.size true (cnt off s.size) with
 |none=>
  rw [hL] at hq k53
  dsimp only [aLR] at hq k53
  subst hq
  refine aK (ob0:= []) [] Tryz.func57 rfl rfl rfl rfl ?_
  exact Wz
 |some L=>
  rw [hL] at hq k53
  dsimp only [aLR] at hq k53
  have hlz:=lD hL
  have hcn:=fK hb
  by_cases g4:g=4
  ·subst g4
   subst hq
   refine aK (ob0:= []) [] Tryz.func57 rfl rfl rfl rfl ?_
   exact Wz
  rw [beq_eq_false_iff_ne.2 g4,cond_false] at hq
  cases L with
  |cons a L=>
   subst hq
   simp only [List.length_cons] at hlz
   refine aK (ob0:= []) [] Tryz.func57 rfl rfl rfl rfl ?_
   exact Wz
  |nil=>
   by_cases g0:g=0
   ·subst g0
    subst hq
    rw [<-hun] at hL
    have k169:=bHP d o1 f off s (by rw [o2];exact hf) hb hL
    obtain⟨w1,w2,w3⟩:=qV o1 (s:=s) (off:=off) (show f<d.fl.length by rw [o2];exact hf) hb _ (zK _)
    generalize kI d f off s (cnt off s.size)=e at *
    have hfe:f<e.fl.length:=by rw [w2,o2];exact hf
    have k85:=aL1 e w1.sm
    have hgf:=iS hfe
    have kf:=w1.file f hfe
    have hps:=aPL (n:=max (e.fl.getD f aP).size (off+s.size)) hfe kf.E
    obtain⟨k0,k1,k2,k3,hfc,-⟩:=Df.cells kf.E
    rw [hfc] at hgf hps
    have hs:=kf.size
    unfold Dc.sz
    simp only [Dc.c,Bool.cond_true_left,cond_true,List.isEmpty_nil,Bool.true_and,beq_self_eq_true]
    rw [<-hps]
    generalize(e.fl.getD f aP).size=z at *
    have hsm:=w1.sm
    have h1:=hsm.fl
    have h2:=hsm.fr
    have h3:=hsm.gr
    have h4:=hsm.ls
    have h5:=hsm.ck
    refine aK (ob0:= []) [] Tryz.func57 rfl rfl rfl rfl ?_
    exact Wz
   ·rw [show(List.isEmpty ([]:List (Nat×Nat))&&g==0)=false from by rw [beq_eq_false_iff_ne.2 g0];rfl] at hq
    subst hq
    refine aK (ob0:= []) [] Tryz.func57 rfl rfl rfl rfl ?_
    exact Wz
end Go.Proofs.YtmhapcbjjpadnaaGreat
namespace Go.Proofs.YtmhapcbjjpadnaaGreat
open Go Go.Sk Go.RowKit
def oZ(c:Dc)(f off n p:Nat):Bool:=bif ((aO p off n).1:Int)==0 then((p*16+(aO p off n).2:Nat):Int)==((min (c.fl.getD f aP).size ((p+1)*16):Nat):Int) else false
def sF(c:Dc)(f off n p:Nat):Bool:=bif oZ c f off n p then(match eA c f p with |none=>true |some x=>mA x.2) else(match eA c f p with |none=>false |some x=>bif bif (x.2.rd:Int)==0 then(x.2.wr:Int)==0 else false then(fT x.2 off n p true:Int)==0 else false)
def cW(c:Dc)(f off n:Nat):Nat->Nat×Nat×Bool
 |0=>(0,0,true)
 |k+1=>(bif oZ c f off n (off/16+k) then(cW c f off n k).1 ||| 2^(off/16+k) else(cW c f off n k).1,bif oZ c f off n (off/16+k) then(cW c f off n k).2.1 else(cW c f off n k).2.1 ||| 2^(off/16+k),(cW c f off n k).2.2&&sF c f off n (off/16+k))
theorem aCU(c:Dc)(f off n:Nat):∀k,off/16+k<=8->(cW c f off n k).1<256/\(cW c f off n k).2.1<256
 |0,_=>⟨zF _,zF _⟩
 |k+1,h=>by
  obtain⟨h1,h2⟩:=aCU c f off n k (by omega)
  have h3:2^(off/16+k)<2^8:=zG (by omega) (by omega)
  have h4:=zJ (n:=8) h1 h3
  have h5:=zJ (n:=8) h2 h3
  rw [cW]
  dsimp only
  cases oZ c f off n (off/16+k)
  ·exact⟨h1,h5⟩
  ·exact⟨h4,h2⟩
def aHG(x:Nat×Nat×Bool):V:=.tup [.int .i64 (x.1:Int),.int .i64 (x.2.1:Int),.bool x.2.2]
theorem aZ1(c:Dc)(h:Ok c)(f off n:Nat)(hf:f<c.fl.length)(hb:off+n<=128):aM Tryz.prog 59 [] [.agg c.c,.int .i64 (f:Int),.int .i64 (off:Int),.int .i64 (n:Int)] (aHG (cW c f off (bS c f off n) (cnt off (bS c f off n)))) []:=by
 have k115:=aBY c f hf
 have k125:=pJ (off:Int) (n:Int)
 rw [iN hb] at k125
 have hgf:=iS hf
 have hs:=(h.file f hf).size
 obtain⟨k0,k1,k2,k3,hfc,-⟩:=Df.cells (h.file f hf).E
 rw [hfc] at hgf
 have hrd:max (min (n:Int) (((c.fl.getD f aP).size:Int)- (off:Int))) 0=((bS c f off n:Nat):Int):=by unfold bS;omega
 have hnl:bS c f off n<=n:=by unfold bS;omega
 have k66:=aGO off (bS c f off n) (by omega)
 have hcn:=fK (off:=off) (n:=bS c f off n) (by omega)
 unfold aHG
 generalize bS c f off n=n2 at *
 have hb2:off+n2<=128:=by omega
 refine aK (ob0:= []) [] Tryz.func59 rfl rfl rfl rfl ?_
 refine Wx ?_
 refine Lp (λi:Nat=>i<=cnt off n2) (λi=> [(15,.int .i64 (i:Int)),(11,.int .i64 ((cW c f off n2 i).1:Int)),(12,.int .i64 ((cW c f off n2 i).2.1:Int)),(13,.bool (cW c f off n2 i).2.2)]) (λi=> []) (λi=>cnt off n2-i) 0 (Nat.zero_le _) ?_ ?_
 ·exact Vr [_]
 intro i hi
 have hlt:=aCU c f off n2 i (by omega)
 refine Wx ?_
 refine fP (λb=>?_) (λb=>?_)
 ·have b:i<cnt off n2:=by omega
  have hg:=tH (off/16) (cnt off n2) i b
  have k126:=aEK hb2 b
  have hpi:=eY b
  have h2p:2^(off/16+i)<2^8:=zG (by omega) (by omega)
  have hst:cW c f off n2 (i+1)=(bif oZ c f off n2 (off/16+i) then(cW c f off n2 i).1 ||| 2^(off/16+i) else(cW c f off n2 i).1,bif oZ c f off n2 (off/16+i) then(cW c f off n2 i).2.1 else(cW c f off n2 i).2.1 ||| 2^(off/16+i),(cW c f off n2 i).2.2&&sF c f off n2 (off/16+i)):=rfl
  generalize cW c f off n2 i=q at *
  obtain⟨w,t,m⟩:=q
  dsimp only at hlt hst⊢
  cases hp:eA c f (off/16+i) with
  |none=>
   have k33:=h.f33n hf hp
   refine Wx ?_
   refine aC (λd=>?_) (λd=>?_)
   ·have d:oZ c f off n2 (off/16+i)=true:=d
    have hm:sF c f off n2 (off/16+i)=true:=by unfold sF;rw [d,hp];rfl
    rw [d,hm,cond_true,cond_true,Bool.and_true] at hst
    cases m
    all_goals
     refine Wx ?_
     refine Le (i+1) (hv:=?_)
     simp only [hst]
     exact Vr [_]
   ·have d:oZ c f off n2 (off/16+i)=false:=d
    have hm:sF c f off n2 (off/16+i)=false:=by unfold sF;rw [d,hp];rfl
    rw [d,hm,cond_false,cond_false,Bool.and_false] at hst
    refine Wx ?_
    refine Le (i+1) (hv:=?_)
    simp only [hst]
    exact Vr [_]
  |some x=>
   obtain⟨j,u⟩:=x
   have k33:=h.f33s hf hp
   obtain⟨q1,q2,q3,q4,q5⟩:=bM h hf hp
   have hu:=h.use j u q1 q2
   have hgu:=jB q1 q2
   have hnr:=h.nr
   have k28:=bEN u
   have k164:=aUN u.p hu.pg _ _ hpi.1 true
   rw [show kX u.p (aO (off/16+i) off n2).1 (aO (off/16+i) off n2).2 true=fT u off n2 (off/16+i) true from rfl] at k164
   refine Wx ?_
   refine aC (λd=>?_) (λd=>?_)
   ·have d:oZ c f off n2 (off/16+i)=true:=d
    have hm:sF c f off n2 (off/16+i)=mA u:=by unfold sF;rw [d,hp];rfl
    rw [d,hm,cond_true,cond_true] at hst
    generalize mA u=y at *
    cases m
    all_goals
     refine Wx ?_
     refine Le (i+1) (hv:=?_)
     simp only [hst]
     exact Vr [_]
   ·have d:oZ c f off n2 (off/16+i)=false:=d
    have hm:sF c f off n2 (off/16+i)=bif bif (u.rd:Int)==0 then(u.wr:Int)==0 else false then(fT u off n2 (off/16+i) true:Int)==0 else false:=by unfold sF;rw [d,hp];rfl
    rw [d,hm,cond_false,cond_false] at hst
    generalize fT u off n2 (off/16+i) true=y at *
    cases m
    all_goals
     refine Wx ?_
     refine Le (i+1) (hv:=?_)
     simp only [hst]
     exact Vr [_]
 obtain rfl:i=cnt off n2:=by omega
 exact Wz
end Go.Proofs.YtmhapcbjjpadnaaGreat
namespace Go.Proofs.YtmhapcbjjpadnaaGreat
open Go Go.Sk Go.RowKit
def fbl(f:Df)(b:Nat):Df:=⟨f.dev,f.slot,f.E,f.size,b,f.ec,f.ee⟩
def uO(b p:Nat):Nat:=b &&& (255 ^^^ 2^p)
def Dc.bl(c:Dc)(f p:Nat):Dc:=⟨c.fl.set f (fbl (c.fl.getD f aP) (uO (c.fl.getD f aP).blocks p)),c.fr,c.zo,c.gr,c.ls,c.ck,c.pt⟩
def Dc.e0(c:Dc)(f p:Nat):Dc:=⟨c.fl.set f (eP (c.fl.getD f aP) (cI (c.fl.getD f aP).E p (0,0))),c.fr,c.zo,c.gr,c.ls,c.ck,c.pt⟩
def zB(n:Nat):ByteArray:=⟨(List.replicate n (0:UInt8)).toArray⟩
theorem aJ3(n:Nat):(zB n).size=n:=by
 show(List.replicate n (0:UInt8)).toArray.size=n
 simp
def aA8(c:Dc)(f off n p:Nat):Dc:=bif oZ c f off n p then(match eA c f p with |some x=>c.gone x.1 x.2 0 |none=>c.e0 f p).bl f p else
 match eA c f p with |some x=>c.put x.1 (dQ x.2 (dP x.2.p (aO p off n).1 (zB (aO p off n).2)))|none=>c
def sS(c:Dc)(f off n:Nat):Nat->Dc
 |0=>c
 |k+1=>aA8 (sS c f off n k) f off n (off/16+k)
theorem Ok.bl {c:Dc} (h:Ok c) {f p:Nat} (hf:f<c.fl.length)(hp:p<8):Ok (c.bl f p):=by
 refine h.same (zA ..) (λg q=>?_) (λg hg=>?_) rfl (λ_=>rfl) (λm v hm hv=>?_) rfl rfl rfl h.ls (λ_ _ hx=>hx) rfl h.pt
 ·show(((c.fl.set f (fbl (c.fl.getD f aP) _)).getD g aP).E q).1=_
  by_cases e:g=f
  ·subst e;rw [aJ _ _ _ _ hf];rfl
  ·rw [getD_set_ne _ _ _ e]
 ·show OkF ((c.fl.set f (fbl (c.fl.getD f aP) _)).getD g aP)
  by_cases e:g=f
  ·subst e;rw [aJ _ _ _ _ hf]
   have k:=h.file g hg
   refine⟨k.E,k.sup,k.lo,k.size,?_,k.ec,k.ee⟩
   have :=Nat.and_le_left (n:=(c.fl.getD g aP).blocks) (m:=255 ^^^ 2^p)
   have hb:=k.blocks
   show uO _ p<256
   unfold uO;omega
  ·rw [getD_set_ne _ _ _ e];exact h.file g hg
 ·have :=h.use m v hm hv
  exact⟨this.pg,this.holds,this.rd,this.wr⟩
theorem Ok.e0 {c:Dc} (h:Ok c) {f p:Nat} (hf:f<c.fl.length)(hp:p<16)(hn:eA c f p=none):Ok (c.e0 f p):=by
 have hz:=vX h hf hn
 have kf:=h.file f hf
 have hE:∀g q,(((c.e0 f p).fl.getD g aP).E q).1=if g=f/\q=p then 0 else((c.fl.getD g aP).E q).1:=λg q=>by
  show(((c.fl.set f (eP (c.fl.getD f aP) (cI (c.fl.getD f aP).E p (0,0)))).getD g aP).E q).1=_
  by_cases e:g=f
  ·subst e
   rw [aJ _ _ _ _ hf,fO]
   by_cases e2:q=p
   ·subst e2;rw [dH,if_pos ⟨rfl,rfl⟩]
   ·rw [cT e2,if_neg (λh=>e2 h.2)]
  ·rw [getD_set_ne _ _ _ e,if_neg (λh=>e h.1)]
 have hl:(c.e0 f p).fl.length=c.fl.length:=zA ..
 refine⟨by rw [hl];exact h.nf,h.nr,h.ng,h.nl,h.nk,λg hg=>?_,λn u hn hu=>?_,λg q hg hq=>?_,h.zone,h.free,h.gr,h.ls,h.mem,h.ck,h.pt⟩
 ·show OkF ((c.fl.set f (eP (c.fl.getD f aP) (cI (c.fl.getD f aP).E p (0,0)))).getD g aP)
  by_cases e:g=f
  ·subst e
   rw [aJ _ _ _ _ hf]
   refine kf.eP (kf.E.set (zF _) (λ_=>rfl)) (kf.sup.set hp _) (λq=>?_)
   by_cases e2:q=p
   ·subst e2;rw [dH];show(-1000001:Int)<=0;omega
   ·rw [cT e2];exact kf.lo q
  ·rw [getD_set_ne _ _ _ e];exact h.file g (by rw [<-hl];exact hg)
 ·have k:=h.use n u hn hu
  first |refine aB ⟨by rw [hl];exact k.file,k.page,k.pg,k.ten,k.holds,k.rd,k.wr⟩ ?_ |refine⟨by rw [hl];exact k.file,k.page,k.pg,k.ten,k.holds,k.rd,k.wr,?_⟩
  rw [hE,if_neg]
  ·exact k.val
  ·rintro ⟨e1,e2⟩
   have :=k.val
   rw [e1,e2] at this
   omega
 ·rw [hE] at hq⊢
  by_cases e:g=f/\q=p
  ·rw [if_pos e] at hq;omega
  ·rw [if_neg e] at hq⊢
   exact h.ent g q (by rw [<-hl];exact hg) hq
theorem bDI {c:Dc} {m:Nat} {u:Us} {v:Int} (f p:Nat)(hf:u.file<c.fl.length):(((c.gone m u v).fl.getD f aP).E p).1=if f=u.file/\p=u.page then v else((c.fl.getD f aP).E p).1:=by
 show(((c.fl.set u.file (eP (c.fl.getD u.file aP) (cI (c.fl.getD u.file aP).E u.page (v,0)))).getD f aP).E p).1=_
 by_cases e:f=u.file
 ·subst e
  rw [aJ _ _ _ _ hf,fO]
  by_cases e2:p=u.page
  ·subst e2;rw [dH,if_pos ⟨rfl,rfl⟩]
  ·rw [cT e2,if_neg (λh=>e2 h.2)]
 ·rw [getD_set_ne _ _ _ e,if_neg (λh=>e h.1)]
theorem aVK {c:Dc} (h:Ok c) {m:Nat} {u:Us} (hm:m<c.fr.length)(hu:c.fr.getD m none=some u) {v:Int} (f p:Nat)(hf:f<c.fl.length)(hne:¬(f=u.file/\p=u.page)):eA (c.gone m u v) f p=eA c f p:=by
 have k:=h.use m u hm hu
 unfold eA
 rw [bDI f p k.file,if_neg hne]
 cases hd:decide (0< ((c.fl.getD f aP).E p).1) with
 |false=>rfl
 |true=>
  obtain⟨n,w,k1,k2,k3,k4,k5⟩:=h.ent f p hf (of_decide_eq_true hd)
  have hnm:n≠m:=by
   rintro rfl
   rw [hu] at k3
   injection k3 with k3
   subst k3
   exact hne ⟨k4.symm,k5.symm⟩
  rw [cond_true,cond_true,k2,show(((n+1:Nat):Int)-1).toNat=n by omega]
  show((c.fr.set m none).getD n none).map _=_
  rw [getD_set_ne _ _ _ hnm]
theorem bEY {c:Dc} {f p q:Nat} (hf:f<c.fl.length)(hne:q≠p):eA (c.e0 f p) f q=eA c f q:=by
 have e:((c.e0 f p).fl.getD f aP).E q=(c.fl.getD f aP).E q:=by
  show((c.fl.set f (eP (c.fl.getD f aP) (cI (c.fl.getD f aP).E p (0,0)))).getD f aP).E q=_
  rw [aJ _ _ _ _ hf,fO,cT hne]
 unfold eA
 rw [e];rfl
theorem aVJ {c:Dc} {f p q:Nat} (hf:f<c.fl.length):eA (c.bl f p) f q=eA c f q:=by
 have e:((c.bl f p).fl.getD f aP).E q=(c.fl.getD f aP).E q:=by
  show((c.fl.set f (fbl (c.fl.getD f aP) _)).getD f aP).E q=_
  rw [aJ _ _ _ _ hf];rfl
 unfold eA
 rw [e];rfl
theorem aKJ {c d:Dc} {f off n p:Nat} (h:(d.fl.getD f aP).size=(c.fl.getD f aP).size):oZ d f off n p=oZ c f off n p:=by unfold oZ;rw [h]
theorem aEW(c:Dc)(m:Nat)(u:Us)(f:Nat):((c.put m u).fl.getD f aP).size=(c.fl.getD f aP).size:=by
 show((c.fl.set u.file (eP (c.fl.getD u.file aP) (mE (c.fl.getD u.file aP).E u))).getD f aP).size=_
 by_cases e:f=u.file
 ·subst e
  by_cases hl:u.file<c.fl.length
  ·rw [aJ _ _ _ _ hl];rfl
  ·rw [jI _ _ (zE hl)]
 ·rw [getD_set_ne _ _ _ e]
theorem aQ8 {L:List Df} {g f:Nat} {x:Df} (h:x.size=(L.getD g aP).size):((L.set g x).getD f aP).size=(L.getD f aP).size:=by
 by_cases e:f=g
 ·subst e
  by_cases hl:f<L.length
  ·rw [aJ _ _ _ _ hl,h]
  ·rw [jI _ _ (zE hl)]
 ·rw [getD_set_ne _ _ _ e]
theorem aK3(d:Df)(b:Nat):(fbl d b).size=d.size:=rfl
theorem aH1(d:Df)(E:cM):(eP d E).size=d.size:=rfl
theorem aKQ {c:Dc} {f off n p:Nat} (h:sF c f off n p=true)(hw:oZ c f off n p=false):∃m u,eA c f p=some (m,u)/\fT u off n p true=0:=by
 unfold sF at h
 rw [hw,cond_false] at h
 cases hp:eA c f p with
 |none=>rw [hp] at h;cases h
 |some x=>
  rw [hp] at h
  dsimp only at h
  refine⟨x.1,x.2,rfl,?_⟩
  cases h1:(bif (x.2.rd:Int)==0 then(x.2.wr:Int)==0 else false) with
  |false=>rw [h1] at h;cases h
  |true=>rw [h1,cond_true] at h;have :=beq_iff_eq.1 h;omega
theorem aDM {c:Dc} {f off n:Nat} :∀ {j:Nat},(cW c f off n j).2.2=true->∀k,k<j->sF c f off n (off/16+k)=true
 |0,_,k,hk=>by omega
 |j+1,h,k,hk=>by
  rw [cW] at h
  dsimp only at h
  rw [Bool.and_eq_true] at h
  by_cases e:k=j
  ·subst e;exact h.2
  ·exact aDM h.1 k (by omega)
theorem bA7 {c:Dc} (h:Ok c) {f off n p:Nat} (hf:f<c.fl.length)(hp8:p<8)(hpt:(aO p off n).1+(aO p off n).2<=16):Ok (aA8 c f off n p)/\(aA8 c f off n p).fl.length=c.fl.length/\((aA8 c f off n p).fl.getD f aP).size=(c.fl.getD f aP).size/\∀q,q≠p->eA (aA8 c f off n p) f q=eA c f q:=by
 unfold aA8
 cases oZ c f off n p with
 |true=>
  rw [cond_true]
  cases hp:eA c f p with
  |none=>
   dsimp only
   have hl:(c.e0 f p).fl.length=c.fl.length:=zA ..
   refine⟨(h.e0 hf (by omega) hp).bl (by rw [hl];exact hf) hp8,by show(List.set _ _ _).length=_;rw [zA];exact hl,?_,λq hq=>?_⟩
   ·exact(aQ8 (aK3 _ _)).trans (aQ8 (aH1 _ _))
   ·show eA ((c.e0 f p).bl f p) f q=_
    rw [aVJ (by rw [hl];exact hf),bEY hf hq]
  |some x=>
   obtain⟨m,u⟩:=x
   obtain⟨q1,q2,q3,q4,q5⟩:=bM h hf hp
   dsimp only
   have hl:(c.gone m u 0).fl.length=c.fl.length:=zA ..
   refine⟨(h.gone q1 q2 (Int.le_refl 0) (by omega)).bl (by rw [hl];exact hf) hp8,by show(List.set _ _ _).length=_;rw [zA];exact hl,?_,λq hq=>?_⟩
   ·exact(aQ8 (aK3 _ _)).trans (aQ8 (aH1 _ _))
   ·show eA ((c.gone m u 0).bl f p) f q=_
    rw [aVJ (by rw [hl];exact hf),aVK h q1 q2 f q hf (λe=>hq (e.2.trans q4))]
 |false=>
  rw [cond_false]
  cases hp:eA c f p with
  |none=>exact⟨h,rfl,rfl,λ_ _=>rfl⟩
  |some x=>
   obtain⟨m,u⟩:=x
   obtain⟨q1,q2,q3,q4,q5⟩:=bM h hf hp
   have hw:=lP (h.use m u q1 q2).pg (off:=(aO p off n).1) (s:=zB (aO p off n).2) (by rw [aJ3];exact hpt)
   refine⟨h.put' q1 q2 hw,nP _ _ _,aEW _ _ _ _,λq hq=>?_⟩
   show eA (c.put m _) f q=_
   rw [aD4 h q1 q2 f q hf,if_neg (λe=>hq (e.2.trans q4))]
theorem lK {c:Dc} (h:Ok c) {f off n:Nat} (hf:f<c.fl.length)(hb:off+n<=128):∀k,k<=cnt off n->Ok (sS c f off n k)/\(sS c f off n k).fl.length=c.fl.length/\((sS c f off n k).fl.getD f aP).size=(c.fl.getD f aP).size/\∀i,k<=i->eA (sS c f off n k) f (off/16+i)=eA c f (off/16+i)
 |0,_=>⟨h,rfl,rfl,λ_ _=>rfl⟩
 |k+1,hk=>by
  obtain⟨h1,h2,h3,h4⟩:=lK h hf hb k (by omega)
  have hc:=fK hb
  obtain⟨w1,w2,w3,w4⟩:=bA7 h1 (off:=off) (n:=n) (p:=off/16+k) (by rw [h2];exact hf) (by omega) (eY (show k<cnt off n by omega)).1
  exact⟨w1,w2.trans h2,w3.trans h3,λi hi=>(w4 _ (by omega)).trans (h4 i (by omega))⟩
theorem aJR(c:Dc)(f off n:Nat):∀k p,((cW c f off n k).1.testBit p=(decide (off/16<=p/\p<off/16+k)&&oZ c f off n p))/\((cW c f off n k).2.1.testBit p=(decide (off/16<=p/\p<off/16+k)&& !oZ c f off n p))
 |0,p=>by
  rw [decide_eq_false (show ¬(off/16<=p/\p<off/16+0) by omega)]
  exact⟨zC p,zC p⟩
 |k+1,p=>by
  obtain⟨h1,h2⟩:=aJR c f off n k p
  rw [cW]
  dsimp only
  have hd:decide (off/16<=p/\p<off/16+(k+1))=(decide (off/16<=p/\p<off/16+k)||decide (off/16+k=p)):=by
   rw [Bool.eq_iff_iff];simp only [Bool.or_eq_true,decide_eq_true_eq];omega
  rw [hd]
  by_cases e:off/16+k=p
  ·subst e
   rw [decide_eq_false (show ¬(off/16<=off/16+k/\off/16+k<off/16+k) by omega)] at h1 h2⊢
   cases hw:oZ c f off n (off/16+k) with
   |true=>simp [zD,h1,h2]
   |false=>simp [zD,h1,h2]
  ·rw [decide_eq_false e,zI]
   have hb:(2^(off/16+k)).testBit p=false:=by rw [zH];exact decide_eq_false e
   cases oZ c f off n (off/16+k) with
   |true=>exact⟨by rw [cond_true,zD,hb,zI,h1],by rw [cond_true];exact h2⟩
   |false=>exact⟨by rw [cond_false];exact h1,by rw [cond_false,zD,hb,zI,h2]⟩
theorem aXG {w p:Nat} :(((w &&& 2^p:Nat):Int) != 0)=w.testBit p:=by
 cases h:w.testBit p with
 |true=>
  have :(w &&& 2^p).testBit p=true:=by rw [Nat.testBit_and,h,Nat.testBit_two_pow_self];rfl
  refine bne_iff_ne.2 λe=>?_
  rw [show w &&& 2^p=0 by omega,zC] at this
  cases this
 |false=>
  have :w &&& 2^p=0:=by
   apply Nat.eq_of_testBit_eq
   intro i
   rw [Nat.testBit_and,zH,zC]
   by_cases e:p=i
   ·subst e;rw [h];rfl
   ·rw [decide_eq_false e,Bool.and_false]
  rw [this];rfl
end Go.Proofs.YtmhapcbjjpadnaaGreat
