/- Caches. -/
import Derived.Test.YtmhapcbjjpadnaaGreatGIb
import Derived.Test.YtmhapcbjjpadnaaGreatGHb
set_option linter.all false
set_option maxHeartbeats 8000000
set_option maxRecDepth 40000
namespace Go.Proofs.YtmhapcbjjpadnaaGreat
open Go Go.Sk Go.RowKit
def inI(c:Dc)(f p t pf:Int):Bool:=decide ((0<=f/\f< (c.fl.length:Int))/\(0<=p/\p<8)/\(0<=t/\t< (c.gr.length:Int))/\0<=pf/\pf< (c.zo.length:Int))
def iZ(c:Dc)(f p t pf:Int)(ur:Bool):Dc×Int×Int:=bif inI c f p t pf then eU c f.toNat p.toNat t.toNat pf ur else(c,0,2)
theorem aD2 {c:Dc} (h:Ok c)(f p t pf:Int)(ur:Bool):Ok (iZ c f p t pf ur).1:=by
 unfold iZ inI
 by_cases e:(0<=f/\f< (c.fl.length:Int))/\(0<=p/\p<8)/\(0<=t/\t< (c.gr.length:Int))/\0<=pf/\pf< (c.zo.length:Int)
 ·rw [decide_eq_true e]
  exact aYH h pf ur (by omega) (by omega) (by omega)
 ·rw [decide_eq_false e];exact h
theorem bIQ(c:Dc)(h:Ok c)(f p t pf:Int)(ur:Bool)(hi:inI c f p t pf=false):aM Tryz.prog 30 [] [.agg c.c,.int .i64 f,.int .i64 p,.int .i64 t,.int .i64 pf,.bool ur] (.tup [.agg c.c,.int .i64 0,.int .i64 2]) []:=by
 have k115:=aHR c f
 unfold inI at hi
 have hi:=of_decide_eq_false hi
 by_cases a1:0<=f/\f< (c.fl.length:Int)
 ·rw [decide_eq_true a1] at k115
  by_cases b1:p<0
  ·refine aK (ob0:= []) [] Tryz.func30 rfl rfl rfl rfl ?_
   exact Wz
  by_cases b2:8<=p
  ·refine aK (ob0:= []) [] Tryz.func30 rfl rfl rfl rfl ?_
   exact Wz
  by_cases b3:t<0
  ·refine aK (ob0:= []) [] Tryz.func30 rfl rfl rfl rfl ?_
   exact Wz
  by_cases b4:(c.gr.length:Int)<=t
  ·refine aK (ob0:= []) [] Tryz.func30 rfl rfl rfl rfl ?_
   exact Wz
  by_cases b5:pf<0
  ·refine aK (ob0:= []) [] Tryz.func30 rfl rfl rfl rfl ?_
   exact Wz
  have b6:(c.zo.length:Int)<=pf:=by omega
  refine aK (ob0:= []) [] Tryz.func30 rfl rfl rfl rfl ?_
  exact Wz
 ·rw [decide_eq_false a1] at k115
  refine aK (ob0:= []) [] Tryz.func30 rfl rfl rfl rfl ?_
  exact Wz
theorem aZU {L:List Int} {k:Nat} (h:k<L.length):(aE L).getD k []=[.int .i64 (L.getD k 0)]:=by simp [aE,List.getD_eq_getElem?_getD,h]
theorem bIR(c:Dc)(h:Ok c)(f p t pf:Nat)(ur:Bool)(hf:f<c.fl.length)(hp:p<8)(ht:t<c.gr.length)(hpf:pf<c.zo.length):
 aM Tryz.prog 30 [] [.agg c.c,.int .i64 (f:Int),.int .i64 (p:Int),.int .i64 (t:Int),.int .i64 (pf:Int),.bool ur] (.tup [.agg (eU c f p t (pf:Int) ur).1.c,.int .i64 (eU c f p t (pf:Int) ur).2.1,.int .i64 (eU c f p t (pf:Int) ur).2.2]) []:=by
 have k115:=aBY c f hf
 have kf:=h.file f hf
 have k33:=bEQ c f (p:Int) h.sm hf kf.E kf.sup
 rw [aAN] at k33
 have k116:=bHA c.gr t ht h.gr
 have k110:=bH6 c.zo false (pf:Int) ur h.smZ
 have hgf:=iS hf
 have htl:t<c.ls.length:=by rw [h.nl];exact ht
 have htk:t<c.ck.length:=by rw [h.nk];exact ht
 have hgl:=kD c.ls t htl
 have hgk:=aZU htk
 have k117:=aUG kf.E kf.sup (p:Int)
 have hva:uW (c.fl.getD f aP).E (p:Int)=((c.fl.getD f aP).E p).1:=by unfold uW;rw [decide_eq_true (show(0:Int)<=(p:Int) by omega),cond_true,Int.toNat_natCast]
 rw [hva] at k117
 have hck:=h.ck t
 have k72:=bMQ (c.ck.getD t 0) ((c.fl.getD f aP).E p).1 ((c.ls.getD t l0).A.length:Int) hck.1 hck.2
 have k120:=bHD
 have k122:=bHE
 have k121:=bAS (c.fl.getD f aP) kf.E p hp kf.blocks
 have k85:=aL1 c h.sm
 have hsm:=h.sm
 have h1:=hsm.fl
 have h2:=hsm.fr
 have h3:=hsm.gr
 have h4:=hsm.ls
 have h5:=hsm.ck
 obtain⟨k0,k1,k2,k3,hfc,hcan⟩:=Df.cells kf.E
 generalize hq:eU c f p t (pf:Int) ur=q
 unfold eU at hq
 by_cases e1:0< ((c.fl.getD f aP).E p).1
 ·rw [decide_eq_true e1,cond_true] at hq
  rw [decide_eq_false (show ¬((c.fl.getD f aP).E p).1<=0 by omega),cond_false] at k33
  subst hq
  refine aK (ob0:= []) [] Tryz.func30 rfl rfl rfl rfl ?_
  exact Wz
 rw [decide_eq_false e1,cond_false] at hq
 rw [decide_eq_true (show((c.fl.getD f aP).E p).1<=0 by omega),cond_true] at k33
 by_cases e2:(cK c.gr t).2=0
 ·rw [beq_iff_eq.2 e2,cond_true] at hq
  rw [e2] at k116
  by_cases e3:(cJ c.zo c.zo (pf:Int) ur).2.2=0
  ·rw [beq_iff_eq.2 e3,cond_true] at hq
   obtain⟨m,m1,m2,m3⟩:=take_at h e3
   rw [e3,m2] at k110
   rw [m2,show(((m+1:Nat):Int)-1).toNat=m by omega] at hq
   have hE':bH (cI (c.fl.getD f aP).E p (((m+1:Nat):Int),0)):=kf.E.set (Nat.zero_lt_succ _) (λ_=>rfl)
   have k118:=aUH kf.E kf.sup p (by omega) ((m+1:Nat):Int)
   have k119:=bHC (c.ls.getD t l0) ((m+1:Nat):Int) (aN7 c f p t) (h.smL t)
   have hput:=nN c.fl f _ hf kf.E hE'
   rw [eJ c.fl f hf] at hput
   have hsetl:∀x:Ls,(bW c.ls).set t (aU 3 (c.ls.getD t l0).c 0 x.c)=bW (c.ls.set t x):=λx=>pR c.ls t x
   have hsetu:(aV c.fr).set m (aU 9 fre.c 0 (vL c f p t).c)=aV (c.fr.set m (some (vL c f p t))):=by
    have :aU 9 fre.c 0 (vL c f p t).c=(vL c f p t).c:=rfl
    rw [this];unfold aV;rw [List.map_set];rfl
   have hgu:(aV c.fr).getD m []=fre.c:=by rw [cH c.fr m m1,m3];rfl
   obtain⟨q0,q1,q2,q3,hcan'⟩:=bB hE'
   rw [hfc] at hgf hput k121
   rw [hcan] at k117
   rw [hcan,hcan'] at k118
   rw [hcan'] at hput
   subst hq
   unfold Dc.ins
   simp only [Dc.c]
   rw [<-hput,<-hsetu,<-hsetl]
   unfold vL aKT
   unfold aN7 at k119⊢
   generalize lZ (c.fl.getD f aP).blocks p=b at *
   generalize aXD (c.ck.getD t 0) ((c.fl.getD f aP).E p).1 ((c.ls.getD t l0).A.length:Int)=ac at *
   generalize(aAE (c.ls.getD t l0) ((m+1:Nat):Int) ac).2=le at *
   generalize(aAE (c.ls.getD t l0) ((m+1:Nat):Int) ac).1=l2 at *
   generalize(cJ c.zo c.zo (pf:Int) ur).1=z2 at *
   generalize(cK c.gr t).1=g2 at *
   cases b with
   |true=>
    refine aK (ob0:= []) [] Tryz.func30 rfl rfl rfl rfl ?_
    exact Wz
   |false=>
    refine aK (ob0:= []) [] Tryz.func30 rfl rfl rfl rfl ?_
    exact Wz
  ·rw [beq_eq_false_iff_ne.2 e3,cond_false] at hq
   subst hq
   generalize cJ c.zo c.zo (pf:Int) ur=x at *
   obtain⟨z2,zn,ze⟩:=x
   dsimp only at *
   refine aK (ob0:= []) [] Tryz.func30 rfl rfl rfl rfl ?_
   exact Wz
 ·rw [beq_eq_false_iff_ne.2 e2,cond_false] at hq
  subst hq
  generalize cK c.gr t=x at *
  obtain⟨g2,ge⟩:=x
  dsimp only at *
  refine aK (ob0:= []) [] Tryz.func30 rfl rfl rfl rfl ?_
  exact Wz
theorem bIN(c:Dc)(h:Ok c)(f p t pf:Int)(ur:Bool):aM Tryz.prog 30 [] [.agg c.c,.int .i64 f,.int .i64 p,.int .i64 t,.int .i64 pf,.bool ur] (.tup [.agg (iZ c f p t pf ur).1.c,.int .i64 (iZ c f p t pf ur).2.1,.int .i64 (iZ c f p t pf ur).2.2]) []:=by
 unfold iZ
 cases e:inI c f p t pf with
 |false=>exact bIQ c h f p t pf ur e
 |true=>
  unfold inI at e
  have e:=of_decide_eq_true e
  have :=bIR c h f.toNat p.toNat t.toNat pf.toNat ur (by omega) (by omega) (by omega) (by omega)
  rwa [show((f.toNat:Nat):Int)=f by omega,show((p.toNat:Nat):Int)=p by omega,show((t.toNat:Nat):Int)=t by omega,show((pf.toNat:Nat):Int)=pf by omega] at this
end Go.Proofs.YtmhapcbjjpadnaaGreat
