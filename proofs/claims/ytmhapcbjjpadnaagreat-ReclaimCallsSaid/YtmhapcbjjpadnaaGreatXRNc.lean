/- Caches. -/
import Derived.Test.YtmhapcbjjpadnaaGreatGIc
import Derived.Test.YtmhapcbjjpadnaaGreatGHc
set_option linter.all false
set_option maxHeartbeats 8000000
set_option maxRecDepth 40000
namespace Go.Proofs.YtmhapcbjjpadnaaGreat
open Go Go.Sk Go.RowKit
def inI(c:Dc)(f p t pf:Int):Bool:=decide ((0<=f/\f< (c.fl.length:Int))/\(0<=p/\p<8)/\(0<=t/\t< (c.gr.length:Int))/\0<=pf/\pf< (c.zo.length:Int))
def jI(c:Dc)(f p t pf:Int)(ur:Bool):Dc×Int×Int:=bif inI c f p t pf then fI c f.toNat p.toNat t.toNat pf ur else(c,0,2)
theorem aBK {c:Dc} (h:Ok c)(f p t j:Int)(m:Bool):Ok (jI c f p t j m).1:=by
 unfold jI inI
 by_cases e:(0<=f/\f< (c.fl.length:Int))/\(0<=p/\p<8)/\(0<=t/\t< (c.gr.length:Int))/\0<=j/\j< (c.zo.length:Int)
 ·rw [zdt e];exact bDD h j m (by omega) (by omega) (by omega)
 ·rw [zdf e];exact h
theorem bQ5(c:Dc)(h:Ok c)(f p t j:Int)(z:Bool)(hi:inI c f p t j=false):aM Tryz.prog 30 [] [.agg c.c,.int .i64 f,.int .i64 p,.int .i64 t,.int .i64 j,.bool z] (.tup [.agg c.c,.int .i64 0,.int .i64 2]) []:=by
 have e:=aYT c f;unfold inI at hi;have hi:=of_decide_eq_false hi
 by_cases m:0<=f/\f< (c.fl.length:Int)
 ·rw [zdt m] at e
  by_cases B:p<0
  ·refine aE (ob0:= []) [] Tryz.func30 rfl rfl rfl rfl ?_;exact Wz
  by_cases C:8<=p
  ·refine aE (ob0:= []) [] Tryz.func30 rfl rfl rfl rfl ?_;exact Wz
  by_cases D:t<0
  ·refine aE (ob0:= []) [] Tryz.func30 rfl rfl rfl rfl ?_;exact Wz
  by_cases E:(c.gr.length:Int)<=t
  ·refine aE (ob0:= []) [] Tryz.func30 rfl rfl rfl rfl ?_;exact Wz
  by_cases F:j<0
  ·refine aE (ob0:= []) [] Tryz.func30 rfl rfl rfl rfl ?_;exact Wz
  have G:(c.zo.length:Int)<=j:=by omega
  refine aE (ob0:= []) [] Tryz.func30 rfl rfl rfl rfl ?_;exact Wz
 ·rw [zdf m] at e;refine aE (ob0:= []) [] Tryz.func30 rfl rfl rfl rfl ?_;exact Wz
theorem aC9 {L:List Int} {k:Nat} (h:k<L.length):(aB L).getD k []=[.int .i64 (L.getD k 0)]:=by simp [aB,List.getD_eq_getElem?_getD,h]
theorem bQ6(c:Dc)(h:Ok c)(f p t D:Nat)(F:Bool)(N:f<c.fl.length)(hp:p<8)(ht:t<c.gr.length)(am:D<c.zo.length):
 aM Tryz.prog 30 [] [.agg c.c,.int .i64 (f:Int),.int .i64 (p:Int),.int .i64 (t:Int),.int .i64 (D:Int),.bool F] (.tup [.agg (fI c f p t (D:Int) F).1.c,.int .i64 (fI c f p t (D:Int) F).2.1,.int .i64 (fI c f p t (D:Int) F).2.2]) []:=by
 have ag:=aHQ c f N;have C:=h.file f N;have M:=bAD c f (p:Int) h.sm N C.E C.sup;rw [aD0] at M;have T:=bOH c.gr t ht h.gr;have R:=bGO c.zo false (D:Int) F h.smZ;have ab:=aAA N;have ae:t<c.ls.length:=by rw [h.nl];exact ht
 have ad:t<c.ck.length:=by rw [h.nk];exact ht
 have ak:=eC c.ls t ae;have aj:=aC9 ad;have H:=aZR C.E C.sup (p:Int);have af:aDY (c.fl.getD f aZ).E (p:Int)=((c.fl.getD f aZ).E p).1:=by unfold aDY;rw [zdt (show(0:Int)<=(p:Int) by omega),zct,Int.toNat_natCast]
 rw [af] at H;have Q:=h.ck t;have ao:=bTE (c.ck.getD t 0) ((c.fl.getD f aZ).E p).1 ((c.ls.getD t l0).A.length:Int) Q.1 Q.2;have ah:=bOK;have ai:=bOL;have Z:=bGP (c.fl.getD f aZ) C.E p hp C.blocks;have ap:=aIV c h.sm;have B:=h.sm;have h1:=B.fl;have h2:=B.fr;have h3:=B.gr;have h4:=B.ls;have h5:=B.ck;obtain⟨k0,k1,k2,k3,aa,G⟩:=Df.cells C.E;generalize j:fI c f p t (D:Int) F=q;unfold fI at j
 by_cases e1:0< ((c.fl.getD f aZ).E p).1
 ·rw [zdt e1,zct] at j;rw [zdf (show ¬((c.fl.getD f aZ).E p).1<=0 by omega),zcf] at M;subst j;refine aE (ob0:= []) [] Tryz.func30 rfl rfl rfl rfl ?_;exact Wz
 rw [zdf e1,zcf] at j;rw [zdt (show((c.fl.getD f aZ).E p).1<=0 by omega),zct] at M
 by_cases e2:(eY c.gr t).2=0
 ·rw [zbe.2 e2,zct] at j;rw [e2] at T
  by_cases e3:(bZ c.zo c.zo (D:Int) F).2.2=0
  ·rw [zbe.2 e3,zct] at j;obtain⟨m,m1,m2,m3⟩:=take_at h e3;rw [e3,m2] at R;rw [m2,show(((m+1:Nat):Int)-1).toNat=m by omega] at j;have O:bI (eH (c.fl.getD f aZ).E p (((m+1:Nat):Int),0)):=C.E.set (Nat.zero_lt_succ _) (λ_=>rfl);have W:=aZS C.E C.sup p (by omega) ((m+1:Nat):Int);have Y:=bOJ (c.ls.getD t l0) ((m+1:Nat):Int) (aQY c f p t) (h.smL t);have e:=aC4 c.fl f _ N C.E O;rw [iD c.fl f N] at e
   have J:∀x:Ls,(aU c.ls).set t (aS 3 (c.ls.getD t l0).c 0 x.c)=aU (c.ls.set t x):=λx=>iE c.ls t x;have K:(aO c.fr).set m (aS 9 fre.c 0 (aD7 c f p t).c)=aO (c.fr.set m (some (aD7 c f p t))):=by have :aS 9 fre.c 0 (aD7 c f p t).c=(aD7 c f p t).c:=rfl;rw [this];unfold aO;rw [List.map_set];rfl
   have al:(aO c.fr).getD m []=fre.c:=by rw [cC c.fr m m1,m3];rfl
   obtain⟨q0,q1,q2,q3,z⟩:=cH O;rw [aa] at ab e Z;rw [G] at H;rw [G,z] at W;rw [z] at e;subst j;unfold Dc.ins;simp only [Dc.c];rw [<-e,<-K,<-J];unfold aD7 aT8;unfold aQY at Y⊢;generalize sS (c.fl.getD f aZ).blocks p=b at *;generalize bC7 (c.ck.getD t 0) ((c.fl.getD f aZ).E p).1 ((c.ls.getD t l0).A.length:Int)=ac at *;generalize(tC (c.ls.getD t l0) ((m+1:Nat):Int) ac).2=le at *;generalize(tC (c.ls.getD t l0) ((m+1:Nat):Int) ac).1=l2 at *
   generalize(bZ c.zo c.zo (D:Int) F).1=z2 at *;generalize(eY c.gr t).1=g2 at *
   cases b with
   |true=> refine aE (ob0:= []) [] Tryz.func30 rfl rfl rfl rfl ?_;exact Wz
   |false=> refine aE (ob0:= []) [] Tryz.func30 rfl rfl rfl rfl ?_;exact Wz
  ·rw [zbn.2 e3,zcf] at j;subst j;generalize bZ c.zo c.zo (D:Int) F=x at *;obtain⟨z2,zn,ze⟩:=x;dsimp only at *;refine aE (ob0:= []) [] Tryz.func30 rfl rfl rfl rfl ?_;exact Wz
 ·rw [zbn.2 e2,zcf] at j;subst j;generalize eY c.gr t=x at *;obtain⟨g2,ge⟩:=x;dsimp only at *;refine aE (ob0:= []) [] Tryz.func30 rfl rfl rfl rfl ?_;exact Wz
theorem bKI(c:Dc)(h:Ok c)(f p t j:Int)(m:Bool):aM Tryz.prog 30 [] [.agg c.c,.int .i64 f,.int .i64 p,.int .i64 t,.int .i64 j,.bool m] (.tup [.agg (jI c f p t j m).1.c,.int .i64 (jI c f p t j m).2.1,.int .i64 (jI c f p t j m).2.2]) []:=by
 unfold jI
 cases e:inI c f p t j with
 |false=>exact bQ5 c h f p t j m e
 |true=>
  unfold inI at e;have e:=of_decide_eq_true e;have :=bQ6 c h f.toNat p.toNat t.toNat j.toNat m (by omega) (by omega) (by omega) (by omega)
  rwa [show((f.toNat:Nat):Int)=f by omega,show((p.toNat:Nat):Int)=p by omega,show((t.toNat:Nat):Int)=t by omega,show((j.toNat:Nat):Int)=j by omega] at this
end Go.Proofs.YtmhapcbjjpadnaaGreat
