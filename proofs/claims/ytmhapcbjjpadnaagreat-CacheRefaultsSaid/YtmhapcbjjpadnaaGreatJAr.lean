/- Caches. -/
import Derived.Test.YtmhapcbjjpadnaaGreatG4b
import Derived.Test.YtmhapcbjjpadnaaGreatGDb
import Derived.Test.YtmhapcbjjpadnaaGreatGJb
import Derived.Test.YtmhapcbjjpadnaaGreatGNb
import Derived.Test.YtmhapcbjjpadnaaGreatGOb
import Derived.Test.YtmhapcbjjpadnaaGreatGKb
import Derived.Test.YtmhapcbjjpadnaaGreatK8b
set_option linter.all false
set_option maxHeartbeats 16000000
set_option maxRecDepth 40000
namespace Go.Proofs.YtmhapcbjjpadnaaGreat
open Go Go.Sk Go.RowKit
theorem takeG_sim {base base' l:List Zn} {p:Int} {u:Bool} (hs:gX base base'):gX (cJ base l p u).1 (cJ base' l p u).1/\(cJ base l p u).2=(cJ base' l p u).2:=by
 rw [cJ,cJ]
 cases bF l with
 |false=>exact⟨hs,rfl⟩
 |true=>
  cases decide (p<0)||decide ((l.length:Int)<=p) with
  |true=>exact⟨hs,rfl⟩
  |false=>
   cases ht:dO l u (p+1).toNat with
   |none=>exact⟨hs,rfl⟩
   |some i=>exact⟨hs.set i rfl,rfl⟩
theorem ok243(c:Int)(h0:0<=c)(h1:c<=1000000):aM Tryz.prog 243 [] [.int .i64 c] (.bool true) []:=by
 refine aF (ob0:= []) [] Tryz.func243 rfl rfl rfl rfl ?_
 refine Wk ?_
 rw [show decide ((0:Int)<=c)=true from decide_eq_true h0,show decide (c<=1000000)=true from decide_eq_true h1]
 try subst hk
 exact Lf
theorem ok152(c:Int)(h0:0<=c)(h1:c<=1000000):aM Tryz.prog 152 [] [.int .i64 c] (.tup [.int .i64 (0- (c+1)),.int .i64 0]) []:=by
 refine aF (ob0:= []) [] Tryz.func152 rfl rfl rfl rfl ?_
 refine cC (ok243 c h0 h1) ?_
 rw [aR (n:=c+1) (by omega) (by omega),aR (n:=0- (c+1)) (by omega) (by omega)]
 try subst hk
 exact Lf
theorem ok348(s:Int):aM Tryz.prog 348 [] [.int .i64 s] (.tup [.int .i64 (kG s).1,.bool (kG s).2]) []:=by
 generalize hk:kG s=q
 unfold kG at hk
 refine aF (ob0:= []) [] Tryz.func348 rfl rfl rfl rfl ?_
 refine Wk ?_
 refine aC (λc1=>?_) (λc1=>?_)<;> try simp only [Bool.cond_true_left,Bool.cond_false_right,Bool.not_eq_true',Bool.not_eq_false',Bool.not_not] at c1
 ·rw [c1,cond_true] at hk
  subst hk
  refine Wk ?_
  try subst hk
  exact Lf
 have c2:0-s-1= -s-1/\-(1000001:Int)<=s/\s<=0:=by
  by_cases h1:0<=s
  ·rw [decide_eq_true h1] at c1;cases c1
  ·rw [decide_eq_false h1,Bool.false_or,decide_eq_false_iff_not] at c1;omega
 obtain⟨c2,c3,c4⟩:=c2
 rw [c1,cond_false] at hk
 subst hk
 refine Wk ?_
 rw [aR (n:=0-s) (by omega) (by omega),aR (n:=0-s-1) (by omega) (by omega),c2]
 try subst hk
 exact Lf
theorem call348:fY Tryz.prog 348:=⟨_,Tryz.func348,rfl,rfl⟩
theorem ok315(s:Int):aM Tryz.prog 315 [] [.int .i64 s] (.tup [.int .i64 (kG s).1,.bool (kG s).2]) []:=by
 have k348:=ok348 s
 generalize(kG s).1=a at k348⊢
 generalize(kG s).2=b at k348⊢
 refine aF (ob0:= []) [] Tryz.func315 rfl rfl rfl rfl ?_
 refine Wk ?_
 refine⟨call348,?_⟩
 refine cC k348 ?_
 try subst hk
 exact Lf
theorem ok242(c s:Int)(h0:0<=c)(h1:c<=1000000):aM Tryz.prog 242 [] [.int .i64 c,.int .i64 s] (.tup [.int .i64 (aDS c s).1,.int .i64 (aDS c s).2]) []:=by
 generalize hk:aDS c s=q
 unfold aDS at hk
 have k315:=ok315 s
 have hb:=aSD (s:=s)
 generalize(kG s).1=t at k315 hb hk
 generalize(kG s).2=o at k315 hb hk
 generalize hw:(bif !o then true else decide (c<=t))=w at hk
 refine aF (ob0:= []) [] Tryz.func242 rfl rfl rfl rfl ?_
 refine Wk2 (ok243 c h0 h1) k315 ?_
 rw [show(bif !o then true else decide (c<=t))=w from hw]
 cases w with
 |true=>
  rw [cond_true] at hk
  subst hk
  refine Wk ?_
  try subst hk
  exact Lf
 |false=>
  rw [cond_false] at hk
  subst hk
  have h3:=hb (by cases o;cases hw;rfl)
  refine Wk ?_
  rw [aR (n:=c-t) (by omega) (by omega)]
  try subst hk
  exact Lf
theorem ok150(c s n:Int)(h0:0<=c)(h1:c<=1000000):aM Tryz.prog 150 [] [.int .i64 c,.int .i64 s,.int .i64 n] (.bool (aXD c s n)) []:=by
 have k:=ok242 c s h0 h1
 unfold aXD
 generalize aDS c s=q at k⊢
 refine aF (ob0:= []) [] Tryz.func150 rfl rfl rfl rfl ?_
 refine cC k ?_
 try subst hk
 exact Lf
theorem ok144:aM Tryz.prog 144 [] [] (.agg (Pg.mk z16 0 0).c) []:=run_eq E1 40 (by kernel_rfl)
theorem ok146:aM Tryz.prog 146 [] [] (.agg (Pg.mk z16 3 0).c) []:=run_eq E1 40 (by kernel_rfl)
theorem diskD_size(f p:Nat):(rT f p).size=16:=by
 show(rS f p 16).toArray.size=16
 rw [List.size_toArray,oT]
theorem ok42(c:Dc)(h:Ok c)(n:Int):aM Tryz.prog 42 [] [.agg c.c,.int .i64 n] (.tup [.agg (evP c n).1.c,.int .i64 (evP c n).2]) []:=by
 have k82:=aRQ c h
 have k96:=bJW c n h.sm
 have hnr:=h.nr
 generalize hq:evP c n=q
 unfold evP at hq
 rcases cN c n with ⟨e,hu⟩| ⟨m,u,e,rfl,h1,h2⟩
 ·rw [e] at hq
  rw [hu] at k96
  subst hq
  refine dF R42 (ob0:= []) cE Tryz.func42 rfl rfl rfl ?_
  exact jR
 ·rw [e] at hq
  dsimp only at hq
  rw [nX h1 h2] at k96
  have hu:=h.use m u h1 h2
  have hgu:=jB h1 h2
  have k151:=bHL u
  have htk:u.ten<c.ck.length:=by rw [h.nk];exact hu.ten
  have hck:=h.ck u.ten
  have hgk:(aE c.ck).getD u.ten []=[.int .i64 (c.ck.getD u.ten 0)]:=by simp [aE,List.getD_eq_getElem?_getD,htk]
  have k152:=ok152 (c.ck.getD u.ten 0) hck.1 hck.2
  have k153:=bHM c.x h.x m u h1 h2 (0- (c.ck.getD u.ten 0+1))
  have hcx:(c.x.goneP m u (0- (c.ck.getD u.ten 0+1))).ck=c.ck:=rfl
  have hsk:∀x:Int,(aE c.ck).set u.ten (aU 1 [.int .i64 (c.ck.getD u.ten 0)] 0 [.int .i64 x])=aE (c.ck.set u.ten x):=λx=>by
   have :aU 1 [V.int .i64 (c.ck.getD u.ten 0)] 0 [.int .i64 x]=[.int .i64 x]:=rfl
   rw [this];unfold aE;rw [List.map_set]
  generalize c.x.goneP m u (0- (c.ck.getD u.ten 0+1))=d at *
  obtain⟨fl,fr,zo,gr,ls,ck,pt⟩:=d
  have hcx:ck=c.ck:=hcx
  subst hcx
  cases hi:mA u with
  |false=>
   rw [hi,Bool.false_and,cond_false] at hq
   rw [hi] at k151
   subst hq
   refine dF R42 (ob0:= []) cE Tryz.func42 rfl rfl rfl ?_
   exact jR
  |true=>
   rw [hi,Bool.true_and] at hq
   rw [hi] at k151
   by_cases hd:u.p.d=0
   ·rw [decide_eq_true hd,cond_true] at hq
    subst hq
    simp only [Dc.c]
    rw [<-hsk]
    refine dF R42 (ob0:= []) cE Tryz.func42 rfl rfl rfl ?_
    exact jR
   ·rw [decide_eq_false hd,cond_false] at hq
    subst hq
    refine dF R42 (ob0:= []) cE Tryz.func42 rfl rfl rfl ?_
    exact jR
theorem ok40e(c:Dc)(h:Ok c)(f p t pf:Int)(ur:Bool)(hi:inI c f p t pf=false):aM Tryz.prog 40 [] [.agg c.c,.int .i64 f,.int .i64 p,.int .i64 t,.int .i64 pf,.bool ur] (.tup [.agg c.x.c,.int .i64 0,.int .i64 2]) []:=by
 have k82:=aRQ c h
 have k141:=aN4 c f
 unfold inI at hi
 have hi:=of_decide_eq_false hi
 by_cases a1:0<=f/\f< (c.fl.length:Int)
 ·rw [decide_eq_true a1] at k141
  by_cases b1:p<0
  ·refine dF R40 (ob0:= []) cE Tryz.func40 rfl rfl rfl ?_
   exact jR
  by_cases b2:8<=p
  ·refine dF R40 (ob0:= []) cE Tryz.func40 rfl rfl rfl ?_
   exact jR
  by_cases b3:t<0
  ·refine dF R40 (ob0:= []) cE Tryz.func40 rfl rfl rfl ?_
   exact jR
  by_cases b4:(c.gr.length:Int)<=t
  ·refine dF R40 (ob0:= []) cE Tryz.func40 rfl rfl rfl ?_
   exact jR
  by_cases b5:pf<0
  ·refine dF R40 (ob0:= []) cE Tryz.func40 rfl rfl rfl ?_
   exact jR
  have b6:(c.zo.length:Int)<=pf:=by omega
  refine dF R40 (ob0:= []) cE Tryz.func40 rfl rfl rfl ?_
  exact jR
 ·rw [decide_eq_false a1] at k141
  refine dF R40 (ob0:= []) cE Tryz.func40 rfl rfl rfl ?_
  exact jR
theorem ok40i(c:Dc)(h:Ok c)(f p t pf:Nat)(ur:Bool)(hf:f<c.fl.length)(hp:p<8)(ht:t<c.gr.length)(hpf:pf<c.zo.length):
 aM Tryz.prog 40 [] [.agg c.c,.int .i64 (f:Int),.int .i64 (p:Int),.int .i64 (t:Int),.int .i64 (pf:Int),.bool ur] (.tup [.agg (bGV c f p t (pf:Int) ur).1.c,.int .i64 (bGV c f p t (pf:Int) ur).2.1,.int .i64 (bGV c f p t (pf:Int) ur).2.2]) []:=by
 have k82:=aRQ c h
 have k141:=aGK c f hf
 have kf:=h.file f hf
 have k138:=bAV c f p (by omega) h.sm hf kf.E kf.sup
 rw [aAN] at k138
 have k142:=bNT c.gr t ht h.gr
 have k109:=bH5 c.zo false (pf:Int) ur h.smZ
 have hgf:=iS hf
 have htl:t<c.ls.length:=by rw [h.nl];exact ht
 have htk:t<c.ck.length:=by rw [h.nk];exact ht
 have hgl:=kD c.ls t htl
 have hgk:=aZU htk
 have k143:=bAW kf.E kf.sup p (by omega)
 have hck:=h.ck t
 have k150:=ok150 (c.ck.getD t 0) ((c.fl.getD f aP).E p).1 ((c.ls.getD t l0).A.length:Int) hck.1 hck.2
 have k144:=ok144
 have k146:=ok146
 have k145:=bHJ (c.fl.getD f aP) kf.E p hp kf.blocks
 have hnr:=h.nr
 obtain⟨k0,k1,k2,k3,hfc,hcan⟩:=Df.cells kf.E
 generalize hq:bGV c f p t (pf:Int) ur=q
 unfold bGV at hq
 by_cases e1:0< ((c.fl.getD f aP).E p).1
 ·rw [decide_eq_true e1,cond_true] at hq
  rw [decide_eq_false (show ¬((c.fl.getD f aP).E p).1<=0 by omega),cond_false] at k138
  subst hq
  refine dF R40 (ob0:= []) cE Tryz.func40 rfl rfl rfl ?_
  exact jR
 rw [decide_eq_false e1,cond_false] at hq
 rw [decide_eq_true (show((c.fl.getD f aP).E p).1<=0 by omega),cond_true] at k138
 by_cases e2:(cK c.gr t).2=0
 ·rw [beq_iff_eq.2 e2,cond_true] at hq
  rw [e2] at k142
  by_cases e3:(cJ (c.zo.map gF) c.zo (pf:Int) ur).2.2=0
  ·rw [beq_iff_eq.2 e3,cond_true] at hq
   have hsim:=takeG_sim (p:=(pf:Int)) (u:=ur) (l:=c.zo) (gX.ex c.zo)
   obtain⟨m,m1,m2,m3⟩:=take_at h (by rw [<-hsim.2];exact e3)
   rw [<-hsim.2] at m2
   rw [e3,m2] at k109
   rw [m2,show(((m+1:Nat):Int)-1).toNat=m by omega] at hq
   have hE':bH (cI (c.fl.getD f aP).E p (((m+1:Nat):Int),0)):=kf.E.set (Nat.zero_lt_succ _) (λ_=>rfl)
   have k148:=aUI kf.E kf.sup p (by omega) ((m+1:Nat):Int)
   have k149:=bHK (c.ls.getD t l0) ((m+1:Nat):Int) (aN7 c f p t) (h.smL t)
   have hput:=nN c.fl f _ hf kf.E hE'
   rw [eJ c.fl f hf] at hput
   have hsetl:∀x:Ls,(bW c.ls).set t (aU 3 (c.ls.getD t l0).c 0 x.c)=bW (c.ls.set t x):=λx=>pR c.ls t x
   have hsetu:(aV c.fr).set m (aU 9 fre.c 0 (vL c f p t).c)=aV (c.fr.set m (some (vL c f p t))):=by
    have :aU 9 fre.c 0 (vL c f p t).c=(vL c f p t).c:=rfl
    rw [this];unfold aV;rw [List.map_set];rfl
   have hgu:(aV c.fr).getD m []=fre.c:=by rw [cH c.fr m m1,m3];rfl
   obtain⟨q0,q1,q2,q3,hcan'⟩:=bB hE'
   rw [hfc] at hgf hput k145
   rw [hcan] at k143
   rw [hcan,hcan'] at k148
   rw [hcan'] at hput
   subst hq
   unfold Dc.bGU
   simp only [Dc.c]
   rw [<-hput,<-hsetu,<-hsetl]
   unfold vL aKT
   unfold aN7 at k149⊢
   generalize lZ (c.fl.getD f aP).blocks p=b at *
   generalize aXD (c.ck.getD t 0) ((c.fl.getD f aP).E p).1 ((c.ls.getD t l0).A.length:Int)=ac at *
   generalize(aMB (c.ls.getD t l0) ((m+1:Nat):Int) ac).2=le at *
   generalize(aMB (c.ls.getD t l0) ((m+1:Nat):Int) ac).1=l2 at *
   clear hsim
   generalize(cJ (c.zo.map gF) c.zo (pf:Int) ur).1=z2 at *
   generalize(cK c.gr t).1=g2 at *
   have k147:=bE3 c.fr m m1 hnr (aQ z2) (bC g2) (aY c.pt) (bA c.fl) (bW c.ls) (aE c.ck) c.fl.length c.ls.length c.ck.length
   rw [xb] at k82
   cases b with
   |true=>
    refine dF R40 (ob0:= []) cE Tryz.func40 rfl rfl rfl ?_
    exact jR
   |false=>
    refine dF R40 (ob0:= []) cE Tryz.func40 rfl rfl rfl ?_
    exact jR
  ·rw [beq_eq_false_iff_ne.2 e3,cond_false] at hq
   subst hq
   generalize cJ (c.zo.map gF) c.zo (pf:Int) ur=x at *
   obtain⟨z2,zn,ze⟩:=x
   dsimp only at *
   refine dF R40 (ob0:= []) cE Tryz.func40 rfl rfl rfl ?_
   exact jR
 ·rw [beq_eq_false_iff_ne.2 e2,cond_false] at hq
  subst hq
  generalize cK c.gr t=x at *
  obtain⟨g2,ge⟩:=x
  dsimp only at *
  refine dF R40 (ob0:= []) cE Tryz.func40 rfl rfl rfl ?_
  exact jR
theorem ok40(c:Dc)(h:Ok c)(f p t pf:Int)(ur:Bool):aM Tryz.prog 40 [] [.agg c.c,.int .i64 f,.int .i64 p,.int .i64 t,.int .i64 pf,.bool ur] (.tup [.agg (bGU c f p t pf ur).1.c,.int .i64 (bGU c f p t pf ur).2.1,.int .i64 (bGU c f p t pf ur).2.2]) []:=by
 unfold bGU
 cases e:inI c f p t pf with
 |false=>exact ok40e c h f p t pf ur e
 |true=>
  unfold inI at e
  have e:=of_decide_eq_true e
  have :=ok40i c h f.toNat p.toNat t.toNat pf.toNat ur (by omega) (by omega) (by omega) (by omega)
  rwa [show((f.toNat:Nat):Int)=f by omega,show((p.toNat:Nat):Int)=p by omega,show((t.toNat:Nat):Int)=t by omega,show((pf.toNat:Nat):Int)=pf by omega] at this
theorem give_sim(l:List Zn)(h:bF l=true)(f:Int):gX (eG ((l.map noZ).map gF) (l.map noZ) f).1 (eG l l f).1:=by
 have hs:=aYV l
 have hc:bF (l.map noZ)=true:=by rw [hs.check];exact h
 have k1:=aCZ (base:=(l.map noZ).map gF) (f:=f) hc
 have k2:=aCZ (base:=l) (f:=f) h
 have hb:gX ((l.map noZ).map gF) l:=(gX.ex _).trans hs
 have hgt:∀i (hi:i< (l.map noZ).length),(l.map noZ)[i]=noZ (l[i]'(by simpa using hi)):=λi hi=>List.getElem_map ..
 have hcl:=((eH l).1 h).1
 generalize eG ((l.map noZ).map gF) (l.map noZ) f=q1 at *
 generalize eG l l f=q2 at *
 have uniq:∀i j (hi:i<l.length) (hj:j<l.length),l[i].first<=f/\f<l[i].first+l[i].size->l[j].first<=f/\f<l[j].first+l[j].size->i=j:=λi j hi hj a b=>by
  rcases Nat.lt_trichotomy i j with e |e |e
  ·have :=hcl.sep i j hi hj e;omega
  ·exact e
  ·have :=hcl.sep j i hj hi e;omega
 cases k1 with
 |range a=>
  cases k2 with
  |range _=>exact hb
  |free i hi hf hm=>exact absurd hf (a (noZ l[i]) (List.mem_map.2 ⟨l[i],List.getElem_mem hi,rfl⟩))
  |ok i hi hf hm=>exact absurd hf (a (noZ l[i]) (List.mem_map.2 ⟨l[i],List.getElem_mem hi,rfl⟩))
 |free i hi hf hm=>
  have hi':i<l.length:=by simpa using hi
  rw [hgt i hi] at hf hm
  have hf:l[i].first<=f/\f<l[i].first+l[i].size:=hf
  cases k2 with
  |range a=>exact absurd hf (a _ (List.getElem_mem hi'))
  |free _ _ _ _=>exact hb
  |ok j hj hf2 hm2=>
   have :=uniq i j hi' hj hf hf2
   subst this
   exact absurd hm hm2
 |ok i hi hf hm=>
  have hi':i<l.length:=by simpa using hi
  rw [hgt i hi] at hf hm⊢
  have hf:l[i].first<=f/\f<l[i].first+l[i].size:=hf
  cases k2 with
  |range a=>exact absurd hf (a _ (List.getElem_mem hi'))
  |free j hj hf2 hm2=>
   have :=uniq i j hi' hj hf hf2
   subst this
   exact absurd hm2 hm
  |ok j hj hf2 hm2=>
   have :=uniq i j hi' hj hf hf2
   subst this
   exact hb.set i rfl
theorem ev_sim {c:Dc} (h:Ok c)(n:Int):mZ (evP c n).1 (evG c n).1/\(evP c n).2=(evG c n).2:=by
 unfold evP evG
 rcases cN c n with ⟨e,hu⟩| ⟨m,u,e,rfl,h1,h2⟩
 ·rw [e];exact⟨.x c,rfl⟩
 ·rw [e]
  dsimp only
  cases(mA u&&decide (u.p.d=0)) with
  |false=>exact⟨.x c,rfl⟩
  |true=>exact⟨⟨rfl,rfl,give_sim c.zo h.zone _,rfl,rfl,rfl,rfl⟩,rfl⟩
theorem addP_F {l:Ls} {f:Int} (act:Bool)(hn:¬inL l f):aMB l f act=aAE l f act:=by
 have h1:wo l.A f=l.A:=aAA λh=>hn (.inl h)
 have h2:wo l.I f=l.I:=aAA λh=>hn (.inr h)
 unfold aMB aAE aSV
 dsimp only
 rw [h1,h2]
theorem ins_sim {c:Dc} (h:Ok c)(f p t pf:Int)(ur:Bool):mZ (bGU c f p t pf ur).1 (iZ c f p t pf ur).1/\(bGU c f p t pf ur).2=(iZ c f p t pf ur).2:=by
 unfold bGU iZ
 cases hi:inI c f p t pf with
 |false=>exact⟨.x c,rfl⟩
 |true=>
  unfold inI at hi
  have hi:=of_decide_eq_true hi
  have ht:t.toNat<c.ls.length:=by rw [h.nl];omega
  rw [cond_true,cond_true]
  generalize t.toNat=t at *
  unfold bGV eU
  cases decide (0< ((c.fl.getD f.toNat aP).E p.toNat).1) with
  |true=>exact⟨.x c,rfl⟩
  |false=>
   rw [cond_false,cond_false]
   cases((cK c.gr t).2==0) with
   |false=>exact⟨.x c,rfl⟩
   |true=>
    rw [cond_true,cond_true]
    obtain⟨s1,s2⟩:=takeG_sim (p:=pf) (u:=ur) (l:=c.zo) (gX.ex c.zo)
    rw [s2]
    cases e3:((cJ c.zo c.zo pf ur).2.2==0) with
    |false=>exact⟨.x c,rfl⟩
    |true=>
     obtain⟨m,m1,m2,m3⟩:=take_at h (eq_of_beq e3)
     rw [cond_true,cond_true]
     dsimp only
     rw [m2,show(((m+1:Nat):Int)-1).toNat=m by omega]
     have hnin:¬inL (c.ls.getD t l0) ((m+1:Nat):Int):=λhx=>by
      obtain⟨n,u,k1,k2,k3,k4⟩:=h.mem t _ ht hx
      have :n=m:=by omega
      subst this
      rw [m3] at k3;cases k3
     refine⟨⟨rfl,rfl,s1,rfl,?_,rfl,rfl⟩,rfl⟩
     show c.ls.set t (aMB (c.ls.getD t l0) ((m+1:Nat):Int) _).1=c.ls.set t (aAE (c.ls.getD t l0) ((m+1:Nat):Int) _).1
     rw [addP_F _ hnin]
end Go.Proofs.YtmhapcbjjpadnaaGreat
namespace Go.Proofs.YtmhapcbjjpadnaaGreat
open Go Go.Sk Go.RowKit
theorem mZ.ok {a b:Dc} (s:mZ a b)(h:Ok b):Ok a:=by
 obtain⟨fl,fr,za,gr,ls,ck,pt⟩:=a
 obtain⟨fl2,fr2,zb,gr2,ls2,ck2,pt2⟩:=b
 obtain⟨e1,e2,e3,e4,e5,e6,e7⟩:=s
 dsimp only at e1 e2 e3 e4 e5 e6 e7
 subst e1 e2 e4 e5 e6 e7
 refine⟨h.nf,h.nr,h.ng,h.nl,h.nk,h.file,λn u hn hu=>?_,h.ent,by rw [show bF za=bF zb from e3.check];exact h.zone,λz hz x hx=>?_,h.gr,h.ls,h.mem,h.ck,h.pt⟩
 ·have k:=h.use n u hn hu
  exact⟨k.file,k.page,k.pg,k.ten,k.holds,k.rd,k.wr,k.val⟩
 ·have hm:gF z∈za.map gF:=List.mem_map_of_mem hz
  rw [show za.map gF=zb.map gF from e3] at hm
  obtain⟨w,hw,e⟩:=List.mem_map.1 hm
  have e:w.free=z.free:=by
   unfold gF at e
   rw [Zn.mk.injEq] at e
   exact e.2.2.2.2.2.1
  exact h.free w hw x (by rw [e];exact hx)
def aWL(c:Dc)(f off n p:Nat):Dc:=bif oZ c f off n p then(match eA c f p with |some x=>((c.bl f p).goneP x.1 x.2 0).e0 f p |none=>(c.bl f p).e0 f p) else
 match eA c f p with |some x=>c.put x.1 (dQ x.2 (dP x.2.p (aO p off n).1 (zB (aO p off n).2)))|none=>c
def kH(c:Dc)(f off n:Nat):Nat->Dc
 |0=>c
 |k+1=>aWL (kH c f off n k) f off n (off/16+k)
end Go.Proofs.YtmhapcbjjpadnaaGreat
namespace Go.Proofs.YtmhapcbjjpadnaaGreat
open Go Go.Sk Go.RowKit
def r1F(c:Dc)(m:Nat)(u:Us):Dc:=bif u.rd != 0 then(reG c ((m+1:Nat):Int) (rT u.file u.page) true).1 else c
def r2F(c:Dc)(m:Nat)(u:Us):Dc:=bif u.wr != 0 then(enG (r1F c m u) ((m+1:Nat):Int) 0).1 else r1F c m u
def r3F(c:Dc)(m:Nat)(u:Us):Dc:=(aCM (r2F c m u) ((m+1:Nat):Int) (0- (u.holds:Int))).1
def r4F(c:Dc)(m:Nat)(u:Us):Dc:=bif (bgG (r3F c m u) ((m+1:Nat):Int)).2==0 then(enG (bgG (r3F c m u) ((m+1:Nat):Int)).1 ((m+1:Nat):Int) 0).1 else r3F c m u
def rest1(c:Dc)(m:Nat):Dc:=match c.fr.getD m none with
 |none=>c
 |some u=>r4F c m u
def restL(c:Dc):Nat->Dc
 |0=>c
 |k+1=>rest1 (restL c k) k
theorem r1_stp(c:Dc)(m:Nat)(u:Us):oP c (r1F c m u):=by
 unfold r1F
 cases(u.rd != 0) with
 |true=>exact .re _ _ _ _
 |false=>exact .refl _
theorem r2_stp(c:Dc)(m:Nat)(u:Us):oP c (r2F c m u):=by
 unfold r2F
 cases(u.wr != 0) with
 |true=>exact(r1_stp c m u).trans (.en _ _ _)
 |false=>exact r1_stp c m u
theorem r3_stp(c:Dc)(m:Nat)(u:Us):oP c (r3F c m u):=(r2_stp c m u).trans (.hol _ _ _)
theorem r4_stp(c:Dc)(m:Nat)(u:Us):oP c (r4F c m u):=by
 unfold r4F
 cases((bgG (r3F c m u) ((m+1:Nat):Int)).2==0) with
 |true=>exact(r3_stp c m u).trans ((oP.bg _ _).trans (.en _ _ _))
 |false=>exact r3_stp c m u
theorem rest1_stp(c:Dc)(m:Nat):oP c (rest1 c m):=by
 unfold rest1
 split
 ·exact .refl _
 ·exact r4_stp _ _ _
theorem restL_stp(c:Dc):∀k,oP c (restL c k)
 |0=>.refl _
 |k+1=>(restL_stp c k).trans (rest1_stp _ _)
noncomputable def R69:Rsv Tryz.prog Tryz.f69 [] 1:=⟨_,_,rfl,rfl⟩
theorem ok69(c:Dc)(h:Ok c):aM Tryz.prog 69 [] [.agg c.c] (.agg (restL c c.fr.length).c) []:=by
 have hnr:=h.nr
 refine bE R69 (ob0:= []) Tryz.func69 rfl rfl rfl ?_
 refine Wy ?_
 refine Lp (λi:Nat=>i<=c.fr.length) (λi=> [(3,.int .i64 ((i+1:Nat):Int))]) (λi=> [(0,.box (restL c i).c)]) (λi=>c.fr.length-i) 0 (Nat.zero_le _) ?_ ?_
 ·exact Vr [_,_]
 intro i hi
 obtain⟨o1,sh1⟩:=(restL_stp c i).sh h
 have hst:restL c (i+1)=rest1 (restL c i) i:=rfl
 unfold rest1 at hst
 generalize hd:restL c i=d at *
 have hfl:=sh1.fr
 refine Wy ?_
 refine fP (λb=>?_) (λb=>?_)
 ·have b:i<d.fr.length:=by omega
  have hg:=cH d.fr i b
  cases hu:d.fr.getD i none with
  |none=>
   rw [hu] at hst hg
   have hg:(aV d.fr).getD i []=fre.c:=hg
   refine Wy ?_
   refine Le (i+1) (hv:=?_)
   simp only [hst]
   exact Vr [_,_]
  |some u=>
   rw [hu] at hst hg
   dsimp only at hst
   have hg:(aV d.fr).getD i []=u.c:=hg
   have ku:=o1.use i u b hu
   have kf:=ku.file
   have knf:=o1.nf
   have kp:=ku.page
   have kh:=ku.holds
   have k160:=bB0 u.file u.page (by omega) (by omega)
   have k50:=aVF d o1 ((i+1:Nat):Int) (rT u.file u.page) true
   have k177:=aNH (r1F d i u) ((r1_stp d i u).sh o1).1 ((i+1:Nat):Int) 0
   have k45:=bJF (r2F d i u) ((r2_stp d i u).sh o1).1 ((i+1:Nat):Int) (0- (u.holds:Int))
   obtain⟨x1,x2,x3,x4,x5,x6,k178⟩:=bE9 (r3F d i u) ((r3_stp d i u).sh o1).1 ((i+1:Nat):Int)
   have k177b:=aNH (bgG (r3F d i u) ((i+1:Nat):Int)).1 (bCW ((r3_stp d i u).sh o1).1 _) ((i+1:Nat):Int) 0
   unfold r4F at hst
   have e3:(aCM (r2F d i u) ((i+1:Nat):Int) (0- (u.holds:Int))).1=r3F d i u:=rfl
   rw [e3] at k45
   generalize(aCM (r2F d i u) ((i+1:Nat):Int) (0- (u.holds:Int))).2=y3 at *
   generalize bgG (r3F d i u) ((i+1:Nat):Int)=q4 at *
   obtain⟨d4,y4⟩:=q4
   dsimp only at *
   generalize enG d4 ((i+1:Nat):Int) 0=q5 at *
   obtain⟨d5,y5⟩:=q5
   generalize r3F d i u=d3 at *
   dsimp only at *
   have hr1:r1F d i u=bif u.rd != 0 then(reG d ((i+1:Nat):Int) (rT u.file u.page) true).1 else d:=rfl
   have hr2:r2F d i u=bif u.wr != 0 then(enG (r1F d i u) ((i+1:Nat):Int) 0).1 else r1F d i u:=rfl
   generalize r2F d i u=d2 at *
   generalize enG (r1F d i u) ((i+1:Nat):Int) 0=q2 at *
   obtain⟨d2',y2⟩:=q2
   generalize r1F d i u=d1 at *
   generalize reG d ((i+1:Nat):Int) (rT u.file u.page) true=q1 at *
   obtain⟨d1',y1⟩:=q1
   generalize rT u.file u.page=D at *
   dsimp only at *
   clear e3 ku hd sh1 o1
   by_cases a1:u.rd=0
   ·rw [show(u.rd != 0)=false from bne_eq_false_iff_eq.2 a1,cond_false] at hr1
    subst hr1
    by_cases a2:u.wr=0
    ·rw [show(u.wr != 0)=false from bne_eq_false_iff_eq.2 a2,cond_false] at hr2
     subst hr2
     by_cases a3:y4=0
     ·rw [beq_iff_eq.2 a3,cond_true] at hst
      refine Wy ?_
      refine Le (i+1) (hv:=?_)
      simp only [hst]
      exact Vr [_,_]
     ·rw [beq_eq_false_iff_ne.2 a3,cond_false] at hst
      refine Wy ?_
      refine Le (i+1) (hv:=?_)
      simp only [hst]
      exact Vr [_,_]
    ·rw [show(u.wr != 0)=true from bne_iff_ne.2 a2,cond_true] at hr2
     subst hr2
     by_cases a3:y4=0
     ·rw [beq_iff_eq.2 a3,cond_true] at hst
      refine Wy ?_
      refine Le (i+1) (hv:=?_)
      simp only [hst]
      exact Vr [_,_]
     ·rw [beq_eq_false_iff_ne.2 a3,cond_false] at hst
      refine Wy ?_
      refine Le (i+1) (hv:=?_)
      simp only [hst]
      exact Vr [_,_]
   ·rw [show(u.rd != 0)=true from bne_iff_ne.2 a1,cond_true] at hr1
    subst hr1
    by_cases a2:u.wr=0
    ·rw [show(u.wr != 0)=false from bne_eq_false_iff_eq.2 a2,cond_false] at hr2
     subst hr2
     by_cases a3:y4=0
     ·rw [beq_iff_eq.2 a3,cond_true] at hst
      refine Wy ?_
      refine Le (i+1) (hv:=?_)
      simp only [hst]
      exact Vr [_,_]
     ·rw [beq_eq_false_iff_ne.2 a3,cond_false] at hst
      refine Wy ?_
      refine Le (i+1) (hv:=?_)
      simp only [hst]
      exact Vr [_,_]
    ·rw [show(u.wr != 0)=true from bne_iff_ne.2 a2,cond_true] at hr2
     subst hr2
     by_cases a3:y4=0
     ·rw [beq_iff_eq.2 a3,cond_true] at hst
      refine Wy ?_
      refine Le (i+1) (hv:=?_)
      simp only [hst]
      exact Vr [_,_]
     ·rw [beq_eq_false_iff_ne.2 a3,cond_false] at hst
      refine Wy ?_
      refine Le (i+1) (hv:=?_)
      simp only [hst]
      exact Vr [_,_]
 ·obtain rfl:i=c.fr.length:=by omega
  rw [hd]
  exact jR
end Go.Proofs.YtmhapcbjjpadnaaGreat
namespace Go.Proofs.YtmhapcbjjpadnaaGreat
open Go Go.Sk Go.RowKit
theorem sumZ_set:∀(l:List Zn) (i:Nat) (x:Zn),x.size=(l.getD i gD).size->jP nW (l.set i x)=jP nW l
 | [],_,_,_=>rfl
 |z::r,0,x,h=>by
  have h:x.size=z.size:=h
  show x.size+jP nW r=z.size+jP nW r
  rw [h]
 |z::r,i+1,x,h=>by
  show z.size+jP nW (r.set i x)=z.size+jP nW r
  rw [sumZ_set r i x h]
theorem takeG_sz(l:List Zn)(p:Int)(u:Bool):szF (cJ l l p u).1=szF l:=by
 unfold cJ
 cases bF l with
 |false=>rfl
 |true=>
  rw [Bool.not_true,cond_false]
  cases(decide (p<0)||decide ((l.length:Int)<=p)) with
  |true=>rfl
  |false=>
   rw [cond_false]
   cases dO l u (p+1).toNat with
   |none=>rfl
   |some i=>exact sumZ_set l i _ rfl
theorem giveG_sz(l:List Zn)(f:Int):szF (eG l l f).1=szF l:=by
 unfold eG
 cases bF l with
 |false=>rfl
 |true=>
  cases decide (dR (inG f) l<0) with
  |true=>rfl
  |false=>
   cases aAS (l.getD (dR (inG f) l).toNat gD).free f with
   |true=>rfl
   |false=>exact sumZ_set l _ _ rfl
structure OkZ(c:Dc):Prop where
 chg:∀t,(c.gr.getD t g0).chg<=(c.gr.getD t g0).lim
 num:szF c.zo=(c.fr.length:Int)
theorem getD_setG(g:List Gr)(t s:Nat)(x:Gr):(g.set t x).getD s g0=g.getD s g0\/s=t/\(g.set t x).getD s g0=x:=by
 by_cases e:s=t
 ·subst e
  by_cases h:s<g.length
  ·exact .inr ⟨rfl,aJ _ _ _ _ h⟩
  ·rw [jI _ _ (Nat.le_of_not_lt h)];exact .inl rfl
 ·exact .inl (getD_set_ne _ _ _ e)
theorem charge_le {g:List Gr} {t:Nat} (e:(cK g t).2=0)(h:∀s,(g.getD s g0).chg<=(g.getD s g0).lim)(s:Nat):((cK g t).1.getD s g0).chg<=((cK g t).1.getD s g0).lim:=by
 unfold cK at *
 by_cases c:(g.getD t g0).lim- (g.getD t g0).chg<1
 ·rw [decide_eq_true c] at e;cases e
 ·rw [decide_eq_false c,cond_false]
  show((g.set t _).getD s g0).chg<=((g.set t _).getD s g0).lim
  rcases getD_setG g t s ⟨(g.getD t g0).lim,(g.getD t g0).pro,(g.getD t g0).chg+1⟩ with k | ⟨-,k⟩
  ·rw [k];exact h s
  ·rw [k];dsimp only;omega
theorem unch_le(g:List Gr)(t s:Nat):((gB g t).1.getD s g0).lim=(g.getD s g0).lim/\((gB g t).1.getD s g0).chg<=(g.getD s g0).chg:=by
 unfold gB
 cases decide ((g.getD t g0).chg<1) with
 |true=>exact⟨rfl,Int.le_refl _⟩
 |false=>
  rw [cond_false]
  show((g.set t _).getD s g0).lim=_/\((g.set t _).getD s g0).chg<=_
  rcases getD_setG g t s ⟨(g.getD t g0).lim,(g.getD t g0).pro,(g.getD t g0).chg-1⟩ with k | ⟨rfl,k⟩
  ·rw [k];exact⟨rfl,Int.le_refl _⟩
  ·rw [k];dsimp only;omega
theorem OkZ.keep {c d:Dc} (hm:OkZ c)(hfr:d.fr=c.fr)(hE:∀_ _:Nat,(d.gr,d.zo)=(c.gr,c.zo)):OkZ d:=by
 have e:=hE 0 0
 rw [Prod.mk.injEq] at e
 exact⟨by rw [e.1];exact hm.chg,by rw [e.2,hfr];exact hm.num⟩
theorem OkZ.put {c:Dc} (_:Ok c)(hm:OkZ c) {m:Nat} {u u':Us} (_:m<c.fr.length)(_:c.fr.getD m none=some u)(_:iF u'=iF u):OkZ (c.put m u'):=
 ⟨hm.chg,by rw [tJ];exact hm.num⟩
theorem OkZ.gone {c:Dc} (_:Ok c)(hm:OkZ c) {m:Nat} {u:Us} (_:m<c.fr.length)(_:c.fr.getD m none=some u)(v:Int):OkZ (c.gone m u v):=
 ⟨λs=>by
  show((gB c.gr u.ten).1.getD s g0).chg<=((gB c.gr u.ten).1.getD s g0).lim
  obtain⟨k1,k2⟩:=unch_le c.gr u.ten s
  have :=hm.chg s
  omega,by
  show szF (eG c.zo c.zo _).1=((c.fr.set m none).length:Int)
  rw [giveG_sz,List.length_set];exact hm.num⟩
theorem OkZ.fl1 {c:Dc} (hm:OkZ c) {f:Nat} {x:Df} (_:f<c.fl.length)(_:x.E=(c.fl.getD f aP).E):OkZ ⟨c.fl.set f x,c.fr,c.zo,c.gr,c.ls,c.ck,c.pt⟩:=⟨hm.chg,hm.num⟩
theorem OkZ.e0 {c:Dc} (_:Ok c)(hm:OkZ c) {f p:Nat} (_:f<c.fl.length)(_:eA c f p=none):OkZ (c.e0 f p):=⟨hm.chg,hm.num⟩
theorem OkZ.acc {c:Dc} (hm:OkZ c)(m t:Nat):OkZ (c.acc m t):=hm.keep rfl λ_ _=>rfl
theorem OkZ.pts {c:Dc} (hm:OkZ c)(l:List Pt):OkZ (c.pts l):=hm.keep rfl λ_ _=>rfl
theorem insF_okZ {c:Dc} (h:Ok c)(hm:OkZ c) {f p t:Nat} (pf:Int)(ur:Bool)(hf:f<c.fl.length):OkZ (eU c f p t pf ur).1:=by
 unfold eU
 by_cases e1:0< ((c.fl.getD f aP).E p).1
 ·rw [decide_eq_true e1];exact hm
 rw [decide_eq_false e1,cond_false]
 cases e2:((cK c.gr t).2==0) with
 |false=>exact hm
 |true=>
  rw [cond_true]
  cases e3:((cJ c.zo c.zo pf ur).2.2==0) with
  |false=>exact hm
  |true=>
   rw [cond_true]
   first |refine aH (λs=>?_) ?_ |refine⟨λs=>?_,?_⟩
   ·exact charge_le (eq_of_beq e2) hm.chg s
   ·show szF (cJ c.zo c.zo pf ur).1=((c.fr.set _ _).length:Int)
    rw [takeG_sz,List.length_set];exact hm.num
theorem insG_okZ {c:Dc} (h:Ok c)(hm:OkZ c)(f p t pf:Int)(ur:Bool):OkZ (iZ c f p t pf ur).1:=by
 unfold iZ inI
 by_cases e:(0<=f/\f< (c.fl.length:Int))/\(0<=p/\p<8)/\(0<=t/\t< (c.gr.length:Int))/\0<=pf/\pf< (c.zo.length:Int)
 ·rw [decide_eq_true e];exact insF_okZ h hm pf ur (by omega)
 ·rw [decide_eq_false e];exact hm
theorem rbG_okZ {c:Dc} (h:Ok c)(hm:OkZ c)(n k:Int):OkZ (rbG c n k).1:=by
 unfold rbG
 rcases cN c n with ⟨e,hu⟩| ⟨m,u,e,rfl,h1,h2⟩
 ·rw [e];exact hm
 ·rw [e]
  dsimp only
  cases decide ((1<=k/\k<=3)/\k.toNat &&& (u.p.v ||| u.rd)=0) with
  |true=>exact hm.put h h1 h2 rfl
  |false=>exact hm
theorem reG_okZ {c:Dc} (h:Ok c)(hm:OkZ c)(n:Int)(d:ByteArray)(ok:Bool):OkZ (reG c n d ok).1:=by
 unfold reG
 rcases cN c n with ⟨e,hu⟩| ⟨m,u,e,rfl,h1,h2⟩
 ·rw [e];exact hm
 ·rw [e]
  dsimp only
  unfold aA1
  cases(u.rd==0) with
  |true=>exact hm
  |false=>
   cases(ok&&decide (d.size≠16)) with
   |true=>exact hm
   |false=>exact hm.put h h1 h2 rfl
theorem rdyU_okZ {d:Dc} (h:Ok d)(hm:OkZ d)(f:Nat)(p n:Int):OkZ (aII d f p n):=by
 unfold aII
 split
 ·exact hm
 ·rename_i m u e
  cases(!(jC false 3 (u.p.v ||| u.rd)==0)&&u.rd==0) with
  |false=>exact hm
  |true=>exact reG_okZ (aEX h _ _) (rbG_okZ h hm _ _) _ _ _
theorem rdyL_okZ {c:Dc} (h:Ok c)(hm:OkZ c)(f:Nat)(ps:List Int):∀k,OkZ (aA0 c f ps k)
 |0=>hm
 |k+1=>by
  have ih:=rdyL_okZ h hm f ps k
  have o:=(tK h f ps k).1
  rw [aA0]
  generalize aA0 c f ps k=d at *
  unfold aNR
  split
  ·exact rdyU_okZ o ih _ _ _
  ·cases((iZ d f (ps.getD k 0) 0 ((d.zo.length:Int)-1) true).2.2==0) with
   |false=>exact ih
   |true=>exact rdyU_okZ (aD2 o _ _ _ _ _) (insG_okZ o ih _ _ _ _ _) _ _ _
theorem soiF_okZ {c:Dc} (h:Ok c)(hm:OkZ c) {f:Nat} (e:Int)(hf:f<c.fl.length):OkZ (cB c f e).1:=by
 unfold cB
 split
 ·exact hm
 ·split
  ·exact hm
  ·rename_i m u hp
   obtain⟨q1,q2,q3,q4,q5⟩:=bM h hf hp
   cases(jC false _ u.p.v==0) with
   |true=>exact hm.put h q1 q2 rfl
   |false=>exact hm
theorem wrL_okZ {c:Dc} (h:Ok c)(hm:OkZ c) {f off:Nat} {s:ByteArray} (hf:f<c.fl.length)(hb:off+s.size<=128):∀k,k<=cnt off s.size->OkZ (kI c f off s k)
 |0,_=>hm
 |k+1,hk=>by
  have ih:=wrL_okZ h hm hf hb k (by omega)
  obtain⟨o1,o2,o3⟩:=qV h hf hb k (by omega)
  rw [kI]
  split
  ·rename_i m u hp
   have hf1:f< (kI c f off s k).fl.length:=by rw [o2];exact hf
   obtain⟨q1,q2,q3,q4,q5⟩:=bM o1 hf1 hp
   refine OkZ.acc (OkZ.put o1 ih q1 q2 ?_) _ _
   rfl
  ·exact ih
theorem wrtG_okZ {c:Dc} (h:Ok c)(hm:OkZ c)(f off:Int)(s:ByteArray):OkZ (aBL c f off s).1:=by
 unfold aBL
 cases hr:eX c f off s.size with
 |false=>exact hm
 |true=>
  obtain⟨f,off,n,rfl,rfl,e,hf,hb⟩:=dU hr
  have hb:off+s.size<=128:=by omega
  rw [cond_true,Int.toNat_natCast,Int.toNat_natCast]
  unfold jS
  cases(s.size==0) with
  |true=>exact hm
  |false=>
   rw [cond_false]
   obtain⟨o1,o2,o3,o4⟩:=qU h ((off+s.size:Nat):Int) hf
   have hm1:=soiF_okZ h hm ((off+s.size:Nat):Int) hf
   have hf1:f< (cB c f ((off+s.size:Nat):Int)).1.fl.length:=by rw [o2];exact hf
   obtain⟨w1,w2,w3⟩:=qV o1 (s:=s) (off:=off) hf1 hb _ (Nat.le_refl _)
   have hm2:=wrL_okZ o1 hm1 (s:=s) (off:=off) hf1 hb _ (Nat.le_refl _)
   cases eR c f off s.size true (cnt off s.size) with
   |none=>exact hm
   |some L=>
    dsimp only
    cases((cB c f ((off+s.size:Nat):Int)).2==4) with
    |true=>exact hm
    |false=>
     rw [cond_false]
     cases(L.isEmpty&&(cB c f ((off+s.size:Nat):Int)).2==0) with
     |false=>exact hm
     |true=>exact hm2.fl1 (by rw [w2];exact hf1) rfl
theorem bgG_okZ {c:Dc} (h:Ok c)(hm:OkZ c)(n:Int):OkZ (bgG c n).1:=by
 unfold bgG
 rcases cN c n with ⟨e,hu⟩| ⟨m,u,e,rfl,h1,h2⟩
 ·rw [e];exact hm
 ·rw [e]
  dsimp only
  cases(u.wr==0) with
  |false=>exact hm
  |true=>
   cases(u.p.d==0) with
   |true=>exact hm
   |false=>exact OkZ.pts (OkZ.put h hm h1 h2 (u':=aSZ u (lS c u)) rfl) _
theorem enG_okZ {c:Dc} (h:Ok c)(hm:OkZ c)(n e:Int):OkZ (enG c n e).1:=by
 unfold enG
 rcases cN c n with ⟨x,hu⟩| ⟨m,u,x,rfl,h1,h2⟩
 ·rw [x];exact hm
 ·rw [x]
  dsimp only
  have hu:=h.use m u h1 h2
  cases(u.wr==0) with
  |true=>exact hm
  |false=>
   rw [cond_false]
   have hp:=hm.put h h1 h2 (u':=aAL u e) rfl
   have hl:u.file< (c.put m (aAL u e)).fl.length:=by rw [nP];exact hu.file
   unfold aMY
   cases(e==0) with
   |true=>exact hp.fl1 hl rfl
   |false=>exact hp.fl1 hl rfl
theorem evG_okZ {c:Dc} (h:Ok c)(hm:OkZ c)(n:Int):OkZ (evG c n).1:=by
 unfold evG
 rcases cN c n with ⟨e,hu⟩| ⟨m,u,e,rfl,h1,h2⟩
 ·rw [e];exact hm
 ·rw [e]
  dsimp only
  cases(mA u&&decide (u.p.d=0)) with
  |false=>exact hm
  |true=>exact(hm.gone h h1 h2 (0- (c.ck.getD u.ten 0+1))).keep rfl λ_ _=>rfl
theorem holG_okZ {c:Dc} (h:Ok c)(hm:OkZ c)(n k:Int):OkZ (aCM c n k).1:=by
 unfold aCM
 rcases cN c n with ⟨e,hu⟩| ⟨m,u,e,rfl,h1,h2⟩
 ·rw [e];exact hm
 ·rw [e]
  dsimp only
  cases decide ((-255<=k/\k<=255)/\0<=(u.holds:Int)+k/\(u.holds:Int)+k<=255) with
  |false=>exact hm
  |true=>exact hm.put h h1 h2 rfl
theorem wipP_okZ {c:Dc} (h:Ok c)(hm:OkZ c) {f off n p:Nat} (hf:f<c.fl.length):OkZ (aA8 c f off n p):=by
 unfold aA8
 cases oZ c f off n p with
 |true=>
  rw [cond_true]
  cases hp:eA c f p with
  |none=>
   have k:=hm.e0 h hf hp
   exact k.fl1 (by show f< (c.fl.set f _).length;rw [List.length_set];exact hf) rfl
  |some x=>
   obtain⟨m,u⟩:=x
   obtain⟨q1,q2,q3,q4,q5⟩:=bM h hf hp
   have k:=hm.gone h q1 q2 0
   exact k.fl1 (by show f< (c.fl.set u.file _).length;rw [List.length_set];exact hf) rfl
 |false=>
  rw [cond_false]
  cases hp:eA c f p with
  |none=>exact hm
  |some x=>
   obtain⟨m,u⟩:=x
   obtain⟨q1,q2,q3,q4,q5⟩:=bM h hf hp
   exact hm.put h q1 q2 rfl
theorem wipL_okZ {c:Dc} (h:Ok c)(hm:OkZ c) {f off n:Nat} (hf:f<c.fl.length)(hb:off+n<=128):∀k,k<=cnt off n->OkZ (sS c f off n k)
 |0,_=>hm
 |k+1,hk=>by
  have ih:=wipL_okZ h hm hf hb k (by omega)
  obtain⟨o1,o2,o3,o4⟩:=lK h hf hb k (by omega)
  exact wipP_okZ o1 ih (by rw [o2];exact hf)
theorem punG_okZ {c:Dc} (h:Ok c)(hm:OkZ c)(f off n:Int):OkZ (vZ c f off n).1:=by
 unfold vZ
 cases hr:eX c f off n with
 |false=>exact hm
 |true=>
  obtain⟨f,off,n,rfl,rfl,rfl,hf,hb⟩:=dU hr
  rw [cond_true]
  simp only [Int.toNat_natCast]
  have hrd:bS c f off n<=n:=by unfold bS;omega
  unfold aNN
  cases(cW c f off (bS c f off n) (cnt off (bS c f off n))).2.2 with
  |false=>exact hm
  |true=>exact wipL_okZ h hm hf (by omega) _ (Nat.le_refl _)
theorem trnG_okZ {c:Dc} (h:Ok c)(hm:OkZ c)(f z:Int):OkZ (rG c f z).1:=by
 unfold rG
 cases hr:eX c f z 0 with
 |false=>exact hm
 |true=>
  obtain⟨f,z,n,rfl,rfl,-,hf,hb⟩:=dU hr
  rw [cond_true]
  simp only [Int.toNat_natCast]
  obtain⟨o1,o2,o3,o4⟩:=qU h (z:Int) hf
  have hm1:=soiF_okZ h hm (z:Int) hf
  have hf1:f< (cB c f (z:Int)).1.fl.length:=by rw [o2];exact hf
  have hrd:bS (cB c f (z:Int)).1 f z (128-z)<=128-z:=by unfold bS;omega
  have hm2:=wipL_okZ o1 hm1 (off:=z) (n:=bS (cB c f (z:Int)).1 f z (128-z)) hf1 (by omega) _ (Nat.le_refl _)
  have hw:=lK o1 (f:=f) (off:=z) (n:=bS (cB c f (z:Int)).1 f z (128-z)) hf1 (by omega) _ (Nat.le_refl _)
  unfold aO2
  cases((cB c f (z:Int)).2==0) with
  |false=>exact hm
  |true=>
   rw [cond_true]
   cases(cW c f z (bS c f z (128-z)) (cnt z (bS c f z (128-z)))).2.2 with
   |false=>exact hm
   |true=>exact hm2.fl1 (by rw [hw.2.1];exact hf1) rfl
theorem entG_okZ {c:Dc} (h:Ok c)(hm:OkZ c)(pr pg f a:Int)(w:Bool):OkZ (aAM c pr pg f a w).1:=by
 unfold aAM inE
 by_cases e:(0<=f/\f< (c.fl.length:Int))/\(0<=pr/\pr<8)/\(0<=pg/\pg<64)/\0<=a/\a<8
 ·rw [decide_eq_true e,cond_true]
  unfold aR4
  cases decide ((c.fl.getD f.toNat aP).size<=a.toNat*16) with
  |true=>exact hm
  |false=>
   rw [cond_false]
   split
   ·exact hm
   ·rename_i m u hp
    obtain⟨q1,q2,q3,q4,q5⟩:=bM h (by omega) hp
    have hu:=h.use m u q1 q2
    cases(decide (u.p.v≠3)||(w&&decide (u.wr≠0))) with
    |true=>exact hm
    |false=>exact OkZ.pts (OkZ.acc (OkZ.put h hm q1 q2 (aHJ hu.pg w).1) _ _) _
 ·rw [decide_eq_false e];exact hm
theorem oP.okZ {c d:Dc} (k:oP c d):Ok c->OkZ c->OkZ d:=by
 induction k with
 |refl c=>exact λ_ h=>h
 |trans h k ih ik=>exact λo m=>ik (h.sh o).1 (ih o m)
 |ins c f p t pf ur=>exact λh m=>insG_okZ h m _ _ _ _ _
 |rdy c f ps k=>exact λh m=>rdyL_okZ h m _ _ _
 |wrt c f off s=>exact λh m=>wrtG_okZ h m _ _ _
 |bg c n=>exact λh m=>bgG_okZ h m _
 |en c n e=>exact λh m=>enG_okZ h m _ _
 |rb c n k=>exact λh m=>rbG_okZ h m _ _
 |re c n d ok=>exact λh m=>reG_okZ h m _ _ _
 |ev c n=>exact λh m=>evG_okZ h m _
 |hol c n k=>exact λh m=>holG_okZ h m _ _
 |trn c f z=>exact λh m=>trnG_okZ h m _ _
 |pun c f off n=>exact λh m=>punG_okZ h m _ _ _
 |ent c pr pg f a w=>exact λh m=>entG_okZ h m _ _ _ _ _
theorem chg0_at {g:List Gr} (h:aMK g=true) {t:Nat} (ht:t<g.length):(g.getD t g0).chg=0:=by
 have :=kY h ht
 unfold aQV at this
 simpa using this
theorem c0_okZ {z:List Zn} {g:List Gr} (hz:aSS z)(hg:rI g=true)(hc:aMK g=true):OkZ (c0 z g):=by
 first |refine aH (λt=>?_) ?_ |refine⟨λt=>?_,?_⟩
 ·show(g.getD t g0).chg<=(g.getD t g0).lim
  by_cases ht:t<g.length
  ·have h1:=aAR hg ht
   have h2:=chg0_at hc ht
   omega
  ·rw [List.getD_eq_getElem?_getD,List.getElem?_eq_none (Nat.le_of_not_lt ht)];exact Int.le_refl 0
 ·show szF z=((List.replicate (szF z).toNat (none:Option Us)).length:Int)
  obtain⟨n1,n2⟩:=hz.num
  rw [List.length_replicate]
  omega
theorem Drw.okZ {c:Dc} (h:Drw c):OkZ c:=by
 obtain⟨z,g,hz,hg,-,-,-,hc,hs⟩:=h
 exact hs.okZ (aT2 hz hg) (c0_okZ hz hg hc)
end Go.Proofs.YtmhapcbjjpadnaaGreat
