/- Caches. -/
import Derived.Test.YtmhapcbjjpadnaaGreatHCh
import Derived.Test.YtmhapcbjjpadnaaGreatHAh
import Derived.Test.YtmhapcbjjpadnaaGreatGQb
import Derived.Test.YtmhapcbjjpadnaaGreatXYAb
set_option linter.all false
set_option maxHeartbeats 8000000
set_option maxRecDepth 40000
namespace Go.Proofs.YtmhapcbjjpadnaaGreat
open Go Go.Sk Go.RowKit
def shrA(c:Dc)(D:List Int):Nat->Dc×Int
 |0=>(c,0)
 |t+1=>((trimF (shrA c D t).1 t (D.getD t 0)).1,(shrA c D t).2+(trimF (shrA c D t).1 t (D.getD t 0)).2)
def shrB(s:Dc×Int)(n:Int):Nat->Dc×Int
 |0=>s
 |t+1=>bif decide ((shrB s n t).2<n) then((trimF (shrB s n t).1 t (n- (shrB s n t).2)).1,(shrB s n t).2+(trimF (shrB s n t).1 t (n- (shrB s n t).2)).2) else shrB s n t
def shrF(c:Dc)(n:Nat):Dc×Int:=shrB (shrA (ageL c c.fr.length) (divP c.gr n 2).1 c.gr.length) (n:Int) c.gr.length
theorem TrI.trim {c:Dc} {s:Dc×Int} {b:Int} (h:TrI c s b) {t:Nat} (ht:t<c.gr.length)(n:Int):TrI c ((trimF s.1 t n).1,s.2+(trimF s.1 t n).2) (b+200):=by
 have k:=trimF_ok h.ok (t:=t) (by rw [h.sh.gr];exact ht) n
 have :=h.lo;have :=h.hi;have :=k.lo;have :=k.hi
 exact⟨k.ok,h.sh.trans k.sh,by dsimp only;omega,by dsimp only;omega⟩
theorem shrA_ok {c:Dc} (h:Ok c)(D:List Int):∀t,t<=c.gr.length->TrI c (shrA c D t) (200*t)
 |0,_=>⟨h,Sh.refl c,Int.le_refl _,by show(0:Int)<=_;omega⟩
 |t+1,ht=>((shrA_ok h D t (by omega)).trim (by omega) _).wid (by omega)
theorem shrB_ok {c:Dc} {s:Dc×Int} {b:Int} (h:TrI c s b)(n:Int):∀t,t<=c.gr.length->TrI c (shrB s n t) (b+200*t)
 |0,_=>h.wid (by omega)
 |t+1,ht=>by
  have ih:=shrB_ok h n t (by omega)
  rw [shrB]
  cases decide ((shrB s n t).2<n) with
  |true=>exact(ih.trim (by omega) _).wid (by omega)
  |false=>exact ih.wid (by omega)
theorem shrB_stop {s:Dc×Int} {n:Int} {i:Nat} (h:¬(shrB s n i).2<n):∀j,i<=j->shrB s n j=shrB s n i
 |0,hj=>by
  obtain rfl:i=0:=by omega
  rfl
 |j+1,hj=>by
  by_cases e:i=j+1
  ·rw [e]
  ·rw [shrB,shrB_stop h j (by omega),decide_eq_false h,cond_false]
theorem ageL_sh {c:Dc} (k:Nat):Sh c (ageL c k):=by
 rw [(ageL_eq c k).1];exact⟨rfl,rfl,rfl,rfl⟩
theorem shrF_ok {c:Dc} (h:Ok c)(n:Nat):Ok (shrF c n).1/\Sh c (shrF c n).1:=by
 have a:=ageL_ok h c.fr.length
 have sh:=ageL_sh (c:=c) c.fr.length
 have k:=shrA_ok a (divP c.gr n 2).1 c.gr.length (by rw [sh.gr];exact Nat.le_refl _)
 have k2:=shrB_ok k (n:Int) c.gr.length (by rw [sh.gr];exact Nat.le_refl _)
 exact⟨k2.ok,sh.trans k2.sh⟩
noncomputable def R22:Rsv Tryz.prog Tryz.f22 [] 2:=⟨_,_,rfl,rfl⟩
theorem ok22(c:Dc)(h:Ok c)(n:Nat)(hn:1<=n/\n<=64):aM Tryz.prog 22 [] [.agg c.c,.int .i64 (n:Int)] (.tup [.agg (shrF c n).1.c,.int .i64 (shrF c n).2]) []:=by
 have k20:=ok20 c h
 have a:=ageL_ok h c.fr.length
 have sh:=ageL_sh (c:=c) c.fr.length
 have hgr:(ageL c c.fr.length).gr=c.gr:=by rw [(ageL_eq c c.fr.length).1]
 have hng:=h.ng
 have k101:=ok101 c.gr h.gr n (by omega)
 have hD:=divP_ok c.gr n 2
 have hq:shrF c n=shrB (shrA (ageL c c.fr.length) (divP c.gr n 2).1 c.gr.length) (n:Int) c.gr.length:=rfl
 generalize shrF c n=q at *
 generalize(divP c.gr n 2).1=D at *
 generalize(divP c.gr n 2).2=dn at *
 generalize ageL c c.fr.length=A at *
 have hlen:=hD.len
 have hDl:(aE D).length=D.length:=aA _
 have hAg:A.gr.length=c.gr.length:=by rw [hgr]
 rw [<-hgr] at k101
 refine bE R22 (ob0:= []) Tryz.func22 rfl rfl rfl ?_
 refine Wy ?_
 refine Lp (λt:Nat=>t<=c.gr.length) (λt=> [(8,.int .i64 (t:Int)),(7,.int .i64 (shrA A D t).2)]) (λt=> [(0,.box (shrA A D t).1.c)]) (λt=>c.gr.length-t) 0 (Nat.zero_le _) ?_ ?_
 ·exact Vr [_,_]
 intro t ht
 have hs:=shrA_ok a D t (by omega)
 have hst:shrA A D (t+1)=((trimF (shrA A D t).1 t (D.getD t 0)).1,(shrA A D t).2+(trimF (shrA A D t).1 t (D.getD t 0)).2):=rfl
 have hlo:=hs.lo
 have hhi:=hs.hi
 have ok1:=hs.ok
 have hsg:=hs.sh.gr
 by_cases b:t<c.gr.length
 ·have hgd:(aE D).getD t []=[.int .i64 (D.getD t 0)]:=aZU (by omega)
  have hb:=hD.bd t
  have k17:=ok17 (shrA A D t).1 ok1 t (by omega) (D.getD t 0) (by omega)
  have hk:=trimF_ok ok1 (t:=t) (by omega) (D.getD t 0)
  have hk1:=hk.lo
  have hk2:=hk.hi
  generalize trimF (shrA A D t).1 t (D.getD t 0)=T at *
  generalize shrA A D t=S at *
  refine Wy ?_
  refine Le (t+1) (hv:=?_)
  simp only [hst]
  exact Vr [_,_]
 ·obtain rfl:t=c.gr.length:=by omega
  clear hst
  generalize shrA A D c.gr.length=S at *
  refine Wy ?_
  refine Lp (λt:Nat=>t<=c.gr.length) (λt=> [(11,.int .i64 (t:Int)),(7,.int .i64 (shrB S (n:Int) t).2)]) (λt=> [(0,.box (shrB S (n:Int) t).1.c)]) (λt=>c.gr.length-t) 0 (Nat.zero_le _) ?_ ?_
  ·exact Vr [_,_]
  intro t ht2
  have hs2:=shrB_ok hs (n:Int) t (by omega)
  have hst:shrB S (n:Int) (t+1)=bif decide ((shrB S (n:Int) t).2< (n:Int)) then((trimF (shrB S (n:Int) t).1 t ((n:Int)- (shrB S (n:Int) t).2)).1,(shrB S (n:Int) t).2+(trimF (shrB S (n:Int) t).1 t ((n:Int)- (shrB S (n:Int) t).2)).2) else shrB S (n:Int) t:=rfl
  have hstop:=shrB_stop (s:=S) (n:=(n:Int)) (i:=t)
  have hlo2:=hs2.lo
  have hhi2:=hs2.hi
  have ok2:=hs2.ok
  have hsg2:=hs2.sh.gr
  have hGl:(bC (shrB S (n:Int) t).1.gr).length=c.gr.length:=by rw [aI];omega
  by_cases hb:t<c.gr.length/\(shrB S (n:Int) t).2< (n:Int)
  ·have k17:=ok17 (shrB S (n:Int) t).1 ok2 t (by omega) ((n:Int)- (shrB S (n:Int) t).2) (by omega)
   have hk:=trimF_ok ok2 (t:=t) (by omega) ((n:Int)- (shrB S (n:Int) t).2)
   have hk1:=hk.lo
   have hk2:=hk.hi
   rw [decide_eq_true hb.2,cond_true] at hst
   generalize trimF (shrB S (n:Int) t).1 t ((n:Int)- (shrB S (n:Int) t).2)=T at *
   generalize hS:shrB S (n:Int) t=U at *
   refine Wy ?_
   refine Le (t+1) (hv:=?_)
   simp only [hst]
   exact Vr [_,_]
  ·have hfin:shrB S (n:Int) c.gr.length=shrB S (n:Int) t:=by
    by_cases x:(shrB S (n:Int) t).2< (n:Int)
    ·rw [show t=c.gr.length by omega]
    ·exact hstop x _ ht2
   rw [hfin] at hq
   subst hq
   clear hst hstop
   generalize shrB S (n:Int) t=U at *
   by_cases x:t<c.gr.length
   ·exact jR
   ·exact jR
theorem ok73(c:Dc)(h:Ok c):aM Tryz.prog 73 [] [.agg c.c] (.agg (shrF c 64).1.c) []:=by
 have k22:=ok22 c h 64 (by omega)
 refine aK (ob0:= []) [] Tryz.func73 rfl rfl rfl rfl ?_
 exact jR
end Go.Proofs.YtmhapcbjjpadnaaGreat
namespace Go.Proofs.YtmhapcbjjpadnaaGreat
open Go Go.Sk Go.RowKit
theorem ins_get {c:Dc} (h:Ok c) {f p:Nat} {t pf:Int} {ur:Bool} (hf:f<c.fl.length)(e:(iZ c f p t pf ur).2.2=0):
 ∃m,eA (iZ c f p t pf ur).1 f p=some (m,vL c f p t.toNat)/\(iZ c f p t pf ur).1.fl.length=c.fl.length/\((iZ c f p t pf ur).1.fl.getD f aP).size=(c.fl.getD f aP).size:=by
 unfold iZ at *
 cases hi:inI c f p t pf with
 |false=>rw [hi] at e;cases e
 |true=>
  rw [hi,cond_true] at e
  rw [cond_true]
  simp only [Int.toNat_natCast] at *
  unfold eU at *
  cases h1:decide (0< ((c.fl.getD f aP).E p).1) with
  |true=>rw [h1] at e;cases e
  |false=>
   rw [h1,cond_false] at e
   rw [cond_false]
   cases h2:((cK c.gr t.toNat).2==0) with
   |false=>
    rw [h2,cond_false] at e
    exact absurd (beq_iff_eq.2 e) (by rw [h2];simp)
   |true=>
    rw [h2,cond_true] at e
    rw [cond_true]
    cases h3:((cJ c.zo c.zo pf ur).2.2==0) with
    |false=>
     rw [h3,cond_false] at e
     exact absurd (beq_iff_eq.2 e) (by rw [h3];simp)
    |true=>
     obtain⟨m,m1,m2,m3⟩:=take_at h (eq_of_beq h3)
     rw [cond_true]
     dsimp only
     rw [m2,show(((m+1:Nat):Int)-1).toNat=m by omega]
     refine⟨m,?_,List.length_set ..,aQ8 (aH1 _ _)⟩
     have hE:((((c.ins f p t.toNat (cJ c.zo c.zo pf ur).1 (cK c.gr t.toNat).1 m).fl.getD f aP).E p).1)=((m+1:Nat):Int):=by
      show(((c.fl.set f (eP (c.fl.getD f aP) (cI (c.fl.getD f aP).E p (((m+1:Nat):Int),0)))).getD f aP).E p).1=_
      rw [aJ _ _ _ _ hf,fO,dH]
     unfold eA
     rw [hE,decide_eq_true (by omega),cond_true,show(((m+1:Nat):Int)-1).toNat=m by omega]
     show((c.fr.set m (some (vL c f p t.toNat))).getD m none).map _=_
     rw [aJ _ _ _ _ m1];rfl
theorem need_new(b p n:Nat)(h1:1<=n)(h2:n<=16):(lZ b p=true->kX (aKT b p) 0 n false=0)/\(lZ b p=false->kX (aKT b p) 0 n false≠0):=by
 have k1:∀n:Fin 17,jC false (tch 0 n.val) 3=0:=by decide
 have k2:∀n:Fin 17,1<=n.val->jC false (tch 0 n.val) 0≠0:=by decide
 unfold aKT kX
 first |refine aC (λe=>?_) (λe=>?_)|refine⟨λe=>?_,λe=>?_⟩
 ·rw [e];exact k1 ⟨n,by omega⟩
 ·rw [e];exact k2 ⟨n,by omega⟩ h1
theorem read_new {x c:Dc} {f p n m t:Nat} (hx:eA x f p=some (m,vL c f p t))(hs:p*16+n<=(x.fl.getD f aP).size)(h1:1<=n)(h2:n<=16):
 (lZ (c.fl.getD f aP).blocks p=true->∃d:Dc,aPU x f (p*16) n=.tup [.agg d.c,.str (z16.extract 0 n),.int .i64 0])/\(lZ (c.fl.getD f aP).blocks p=false->∃d:Dc,aPU x f (p*16) n=.tup [.agg d.c,.str ⟨#[]⟩,.int .i64 7]):=by
 have hr:bS x f (p*16) n=n:=by unfold bS;omega
 have hc:cnt (p*16) n=1:=by
  unfold cnt oC
  rw [decide_eq_false (by omega),cond_false];omega
 have hd:p*16/16+0=p:=by omega
 have hp:aO p (p*16) n=(0,n):=by
  unfold aO
  ext <;> dsimp only <;> omega
 obtain⟨k1,k2⟩:=need_new (c.fl.getD f aP).blocks p n h1 h2
 have hu:eR x f (p*16) n false 1=some (bif kX (aKT (c.fl.getD f aP).blocks p) 0 n false==0 then [] else [(m+1,kX (aKT (c.fl.getD f aP).blocks p) 0 n false)]):=by
  rw [eR,eR,hd,hx]
  unfold fT
  rw [hp];rfl
 unfold aPU
 rw [hr,hc,hu]
 first |refine aC (λe=>?_) (λe=>?_)|refine⟨λe=>?_,λe=>?_⟩
 ·rw [k1 e]
  refine⟨(rJ x.x f (p*16) n 1).1,?_⟩
  show V.tup [.agg (rJ x.x f (p*16) n 1).1.c,.str (rJ x.x f (p*16) n 1).2,.int .i64 0]=_
  have hrd:(rJ x.x f (p*16) n 1).2=z16.extract 0 n:=by
   rw [rJ,rJ,hd,show eA x.x f p=eA x f p from rfl,hx]
   dsimp only
   rw [hp]
   have :(vL c f p t).p.b=z16:=by
    unfold vL aKT
    cases lZ (c.fl.getD f aP).blocks p <;> rfl
   rw [this,Nat.zero_add]
   exact ByteArray.empty_append
  rw [hrd]
 ·rw [beq_eq_false_iff_ne.2 (k2 e),cond_false]
  exact⟨_,rfl⟩
end Go.Proofs.YtmhapcbjjpadnaaGreat
namespace Go.Proofs.YtmhapcbjjpadnaaGreat
open Go Go.Sk Go.RowKit
noncomputable def R11:Rsv Tryz.prog Tryz.f11 [] 1:=⟨_,_,rfl,rfl⟩
theorem ok11(L:List Int)(hL:(L.length:Int)<2^62):aM Tryz.prog 11 [] [.lst 1 false (aE L)] (.bool true) []:=by
 obtain⟨c,J0,hd,hJ0,k39⟩:=bMA L hL
 obtain⟨hok,hcf,hcg,hcz,hcr⟩:=hd.ok
 clear hd
 have k69:=ok69 c hok
 obtain⟨o1,s1⟩:=(restL_stp c c.fr.length).sh hok
 have k73:=ok73 _ o1
 obtain⟨o2,s2⟩:=shrF_ok o1 64
 have hlf:(shrF (restL c c.fr.length) 64).1.fl.length=3:=by rw [s2.fl,s1.fl,hcf]
 have hlg:(shrF (restL c c.fr.length) 64).1.gr.length=2:=by rw [s2.gr,s1.gr,hcg]
 have hlz:(shrF (restL c c.fr.length) 64).1.zo.length=2:=by rw [s2.zo,s1.zo,hcz]
 generalize restL c c.fr.length=r at *
 generalize(shrF r 64).1=d at *
 obtain⟨f,J1,hf,hJ1,k1⟩:=draw L hL hJ0 (d.fl.length:Int) (by omega) (by omega)
 obtain⟨p,J2,hp,hJ2,k2⟩:=draw L hL hJ1 8 (by decide) (by decide)
 have hf3:f<d.fl.length:=by omega
 have hp8:p<8:=by omega
 have hgf:=iS hf3
 have kf:=o2.file f hf3
 have hsz:=kf.size
 have hbl:=kf.blocks
 obtain⟨k0,k1',k2',k3',hfc,-⟩:=Df.cells kf.E
 rw [hfc] at hgf
 have k38:=bM9
 have k40:=ok40 d o2 (f:Int) (p:Int) 0 0 true
 obtain⟨s3,e3⟩:=ins_sim o2 (f:Int) (p:Int) 0 0 true
 have o3:=s3.ok (aD2 o2 (f:Int) (p:Int) 0 0 true)
 rw [e3] at k40
 cases hpg:eA d f p with
 |some x=>
  obtain⟨m,u⟩:=x
  have k33:=o2.f33s hf3 hpg
  refine bE R11 (ob0:= []) Tryz.func11 rfl rfl rfl ?_
  exact jR
 |none=>
  have k33:=o2.f33n hf3 hpg
  generalize hz:(d.fl.getD f aP).size=z at *
  by_cases hn:z<=p*16
  ·refine bE R11 (ob0:= []) Tryz.func11 rfl rfl rfl ?_
   exact jR
  by_cases he:(iZ d (f:Int) (p:Int) 0 0 true).2.2=0
  ·obtain⟨m,g1,g2,g3⟩:=ins_get o2 hf3 he
   rw [he] at k40
   rw [<-s3.pg] at g1
   rw [<-s3.fl] at g2 g3
   have hz0:((bGU d (f:Int) (p:Int) 0 0 true).1.fl.getD f aP).size=z:=g3.trans hz
   generalize(bGU d (f:Int) (p:Int) 0 0 true).1=x at *
   obtain⟨n,hn1⟩:∃n:Nat,n=min 16 (z-p*16):=⟨_,rfl⟩
   have k55:=bMH x o3 f (p*16) n (by omega) (by omega)
   obtain⟨r1,r2⟩:=read_new (n:=n) g1 (by rw [hz0];omega) (by omega) (by omega)
   have hzz:z16.extract 0 n=zB n:=by
    have key:∀n:Fin 17,(z16.extract 0 n.val).data=(List.replicate n.val (0:UInt8)).toArray:=by decide +kernel
    exact ByteArray.ext (key ⟨n,by omega⟩)
   have hse:lB (zB n) ⟨(List.replicate n (0:UInt8)).toArray⟩=true:=beq_self_eq_true _
   have h2p:2^p<2^8:=Nat.pow_lt_pow_right (by omega) hp8
   rw [hzz] at r1
   unfold lZ at r1 r2
   cases hh:(((d.fl.getD f aP).blocks &&& 2^p:Nat):Int)==0 with
   |true=>
    obtain⟨d',hd'⟩:=r1 hh
    rw [hd'] at k55
    have hb:((((d.fl.getD f aP).blocks &&& 2^p:Nat):Int) != 0)=false:=by rw [bne,hh];rfl
    refine bE R11 (ob0:= []) Tryz.func11 rfl rfl rfl ?_
    refine Wy ?_
    rw [hb]
    refine Wy ?_
    rw [show min 16 ((z-p*16:Nat):Int)=(n:Int) by omega]
    rw [mkT (by omega) (by omega)]
    refine Wy ?_
    rw [Int.toNat_natCast,hse]
    exact jR
   |false=>
    obtain⟨d',hd'⟩:=r2 hh
    rw [hd'] at k55
    have hb:((((d.fl.getD f aP).blocks &&& 2^p:Nat):Int) != 0)=true:=by rw [bne,hh];rfl
    refine bE R11 (ob0:= []) Tryz.func11 rfl rfl rfl ?_
    refine Wy ?_
    rw [hb]
    exact jR
  ·refine bE R11 (ob0:= []) Tryz.func11 rfl rfl rfl ?_
   exact jR
end Go.Proofs.YtmhapcbjjpadnaaGreat
