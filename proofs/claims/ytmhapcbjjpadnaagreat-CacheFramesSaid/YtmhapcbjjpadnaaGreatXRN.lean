/- Caches. -/
import Derived.Test.YtmhapcbjjpadnaaGreatGI
import Derived.Test.YtmhapcbjjpadnaaGreatGH
set_option linter.unusedSimpArgs false
set_option linter.unusedVariables false
set_option maxRecDepth 40000
namespace Go.Proofs.YtmhapcbjjpadnaaGreat
open Go Go.Sk Go.RowKit
def inI(c:Dc)(f p t pf:Int):Bool:=decide ((0≤f∧f< (c.fl.length:Int))∧(0≤p∧p<8)∧(0≤t∧t< (c.gr.length:Int))∧0≤pf∧pf< (c.zo.length:Int))
def gF(c:Dc)(f p t pf:Int)(ur:Bool):Dc×Int×Int:=bif inI c f p t pf then eC c f.toNat p.toNat t.toNat pf ur else(c,0,2)
theorem uJ {c:Dc} (h:Ok c)(f p t pf:Int)(ur:Bool):Ok (gF c f p t pf ur).1:=by
 unfold gF inI
 by_cases e:(0≤f∧f< (c.fl.length:Int))∧(0≤p∧p<8)∧(0≤t∧t< (c.gr.length:Int))∧0≤pf∧pf< (c.zo.length:Int)
 ·rw [decide_eq_true e]
  exact aWO h pf ur (by omega) (by omega) (by omega)
 ·rw [decide_eq_false e];exact h
set_option maxHeartbeats 8000000 in
theorem bGH(c:Dc)(h:Ok c)(f p t pf:Int)(ur:Bool)(hi:inI c f p t pf=false):aN Tryz.prog 30 [] [.agg c.c,.int .i64 f,.int .i64 p,.int .i64 t,.int .i64 pf,.bool ur] (.tup [.agg c.c,.int .i64 0,.int .i64 2]) []:=by
 have k115:=aSA c f
 unfold inI at hi
 have hi:=of_decide_eq_false hi
 by_cases a1:0≤f∧f< (c.fl.length:Int)
 ·rw [decide_eq_true a1] at k115
  by_cases b1:p<0
  ·refine aJ (ob0:= []) [] Tryz.func30 rfl rfl rfl rfl ?_
   exact Wz
  by_cases b2:8≤p
  ·refine aJ (ob0:= []) [] Tryz.func30 rfl rfl rfl rfl ?_
   exact Wz
  by_cases b3:t<0
  ·refine aJ (ob0:= []) [] Tryz.func30 rfl rfl rfl rfl ?_
   exact Wz
  by_cases b4:(c.gr.length:Int)≤t
  ·refine aJ (ob0:= []) [] Tryz.func30 rfl rfl rfl rfl ?_
   exact Wz
  by_cases b5:pf<0
  ·refine aJ (ob0:= []) [] Tryz.func30 rfl rfl rfl rfl ?_
   exact Wz
  have b6:(c.zo.length:Int)≤pf:=by omega
  refine aJ (ob0:= []) [] Tryz.func30 rfl rfl rfl rfl ?_
  exact Wz
 ·rw [decide_eq_false a1] at k115
  refine aJ (ob0:= []) [] Tryz.func30 rfl rfl rfl rfl ?_
  exact Wz
theorem aUK {L:List Int} {k:Nat} (h:k<L.length):(aE L).getD k []=[.int .i64 (L.getD k 0)]:=by simp [aE,List.getD_eq_getElem?_getD,h]
set_option maxHeartbeats 8000000 in
theorem bGI(c:Dc)(h:Ok c)(f p t pf:Nat)(ur:Bool)(hf:f<c.fl.length)(hp:p<8)(ht:t<c.gr.length)(hpf:pf<c.zo.length):
 aN Tryz.prog 30 [] [.agg c.c,.int .i64 (f:Int),.int .i64 (p:Int),.int .i64 (t:Int),.int .i64 (pf:Int),.bool ur] (.tup [.agg (eC c f p t (pf:Int) ur).1.c,.int .i64 (eC c f p t (pf:Int) ur).2.1,.int .i64 (eC c f p t (pf:Int) ur).2.2]) []:=by
 have k115:=aDM c f hf
 have kf:=h.file f hf
 have k33:=bCN c f (p:Int) h.sm hf kf.E kf.sup
 rw [rU] at k33
 have k116:=bEY c.gr t ht h.gr
 have k110:=bEU c.zo false (pf:Int) ur h.smZ
 have hgf:=qB hf
 have htl:t<c.ls.length:=by rw [h.nl];exact ht
 have htk:t<c.ck.length:=by rw [h.nk];exact ht
 have hgl:=jO c.ls t htl
 have hgk:=aUK htk
 have k117:=aT1 kf.E kf.sup (p:Int)
 have hva:tW (c.fl.getD f aR).E (p:Int)=((c.fl.getD f aR).E p).1:=by unfold tW;rw [decide_eq_true (show(0:Int)≤(p:Int) by omega),cond_true,Int.toNat_natCast]
 rw [hva] at k117
 have hck:=h.ck t
 have k72:=bJP (c.ck.getD t 0) ((c.fl.getD f aR).E p).1 ((c.ls.getD t l0).A.length:Int) hck.1 hck.2
 have k120:=bF1
 have k122:=bF2
 have k121:=aZ1 (c.fl.getD f aR) kf.E p hp kf.blocks
 have k85:=aJZ c h.sm
 have hsm:=h.sm
 have h1:=hsm.fl
 have h2:=hsm.fr
 have h3:=hsm.gr
 have h4:=hsm.ls
 have h5:=hsm.ck
 obtain⟨k0,k1,k2,k3,hfc,hcan⟩:=Df.cells kf.E
 generalize hq:eC c f p t (pf:Int) ur=q
 unfold eC at hq
 by_cases e1:0< ((c.fl.getD f aR).E p).1
 ·rw [decide_eq_true e1,cond_true] at hq
  rw [decide_eq_false (show ¬((c.fl.getD f aR).E p).1≤0 by omega),cond_false] at k33
  subst hq
  refine aJ (ob0:= []) [] Tryz.func30 rfl rfl rfl rfl ?_
  exact Wz
 rw [decide_eq_false e1,cond_false] at hq
 rw [decide_eq_true (show((c.fl.getD f aR).E p).1≤0 by omega),cond_true] at k33
 by_cases e2:(cA c.gr t).2=0
 ·rw [beq_iff_eq.2 e2,cond_true] at hq
  rw [e2] at k116
  by_cases e3:(bX c.zo c.zo (pf:Int) ur).2.2=0
  ·rw [beq_iff_eq.2 e3,cond_true] at hq
   obtain⟨m,m1,m2,m3⟩:=take_at h e3
   rw [e3,m2] at k110
   rw [m2,show(((m+1:Nat):Int)-1).toNat=m by omega] at hq
   have hE':bG (cO (c.fl.getD f aR).E p (((m+1:Nat):Int),0)):=kf.E.set (Nat.zero_lt_succ _) (fun _=>rfl)
   have k118:=aT2 kf.E kf.sup p (by omega) ((m+1:Nat):Int)
   have k119:=bF0 (c.ls.getD t l0) ((m+1:Nat):Int) (aGY c f p t) (h.smL t)
   have hput:=sC c.fl f _ hf kf.E hE'
   rw [eL c.fl f hf] at hput
   have hsetl:∀x:Ls,(bZ c.ls).set t (aQ 3 (c.ls.getD t l0).c 0 x.c)=bZ (c.ls.set t x):=fun x=>oF c.ls t x
   have hsetu:(aV c.fr).set m (aQ 9 fre.c 0 (oY c f p t).c)=aV (c.fr.set m (some (oY c f p t))):=by
    have :aQ 9 fre.c 0 (oY c f p t).c=(oY c f p t).c:=rfl
    rw [this];unfold aV;rw [List.map_set];rfl
   have hgu:(aV c.fr).getD m []=fre.c:=by rw [cD c.fr m m1,m3];rfl
   obtain⟨q0,q1,q2,q3,hcan'⟩:=bI hE'
   rw [hfc] at hgf hput k121
   rw [hcan] at k117
   rw [hcan,hcan'] at k118
   rw [hcan'] at hput
   subst hq
   unfold Dc.ins
   simp only [Dc.c]
   rw [←hput,←hsetu,←hsetl]
   unfold oY aFH
   unfold aGY at k119⊢
   generalize kZ (c.fl.getD f aR).blocks p=b at *
   generalize aL3 (c.ck.getD t 0) ((c.fl.getD f aR).E p).1 ((c.ls.getD t l0).A.length:Int)=ac at *
   generalize(sL (c.ls.getD t l0) ((m+1:Nat):Int) ac).2=le at *
   generalize(sL (c.ls.getD t l0) ((m+1:Nat):Int) ac).1=l2 at *
   generalize(bX c.zo c.zo (pf:Int) ur).1=z2 at *
   generalize(cA c.gr t).1=g2 at *
   cases b with
   |true=>
    refine aJ (ob0:= []) [] Tryz.func30 rfl rfl rfl rfl ?_
    exact Wz
   |false=>
    refine aJ (ob0:= []) [] Tryz.func30 rfl rfl rfl rfl ?_
    exact Wz
  ·rw [beq_eq_false_iff_ne.2 e3,cond_false] at hq
   subst hq
   generalize bX c.zo c.zo (pf:Int) ur=x at *
   obtain⟨z2,zn,ze⟩:=x
   dsimp only at *
   refine aJ (ob0:= []) [] Tryz.func30 rfl rfl rfl rfl ?_
   exact Wz
 ·rw [beq_eq_false_iff_ne.2 e2,cond_false] at hq
  subst hq
  generalize cA c.gr t=x at *
  obtain⟨g2,ge⟩:=x
  dsimp only at *
  refine aJ (ob0:= []) [] Tryz.func30 rfl rfl rfl rfl ?_
  exact Wz
theorem bCL(c:Dc)(h:Ok c)(f p t pf:Int)(ur:Bool):aN Tryz.prog 30 [] [.agg c.c,.int .i64 f,.int .i64 p,.int .i64 t,.int .i64 pf,.bool ur] (.tup [.agg (gF c f p t pf ur).1.c,.int .i64 (gF c f p t pf ur).2.1,.int .i64 (gF c f p t pf ur).2.2]) []:=by
 unfold gF
 cases e:inI c f p t pf with
 |false=>exact bGH c h f p t pf ur e
 |true=>
  unfold inI at e
  have e:=of_decide_eq_true e
  have :=bGI c h f.toNat p.toNat t.toNat pf.toNat ur (by omega) (by omega) (by omega) (by omega)
  rwa [show((f.toNat:Nat):Int)=f by omega,show((p.toNat:Nat):Int)=p by omega,show((t.toNat:Nat):Int)=t by omega,show((pf.toNat:Nat):Int)=pf by omega] at this
end Go.Proofs.YtmhapcbjjpadnaaGreat
