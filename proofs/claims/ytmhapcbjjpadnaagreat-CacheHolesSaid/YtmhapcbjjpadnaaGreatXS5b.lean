/- Caches. -/
import Derived.Test.YtmhapcbjjpadnaaGreatGJb
set_option linter.all false
set_option maxHeartbeats 8000000
set_option maxRecDepth 40000
open Bool renaming true_and→zC
open Int renaming toNat_natCast→zA
namespace Go.Proofs.YtmhapcbjjpadnaaGreat
open Go Go.Sk Go.RowKit
theorem aPR {d:Dc} {f:Nat} {p:Int} {m:Nat} {u:Us} (h1:m<d.fr.length)(h2:d.fr.getD m none=some u):aII d f p ((m+1:Nat):Int)=bif !(jC false 3 (u.p.v ||| u.rd)==0)&&u.rd==0 then(reG (rbG d ((m+1:Nat):Int) (jC false 3 (u.p.v ||| u.rd):Nat)).1 ((m+1:Nat):Int) (rT f p.toNat) true).1 else d:=by
 have :fA d ((m+1:Nat):Int)=some (m,u):=by
  unfold fA
  rw [nX h1 h2,show(((m+1:Nat):Int)-1).toNat=m by omega,h2];rfl
 unfold aII
 rw [this]
def aNS(off n:Int):List Int:=bif decide (1<=n)&&gE off n then(List.range' (off.toNat/16) (oC off.toNat n.toNat)).map (λx:Nat=>(x:Int)) else []
theorem bJU(off n:Int):aM Tryz.prog 66 [] [.int .i64 off,.int .i64 n] (.sl 0 0 (aNS off n).length) [.row 1 (aE (aNS off n))]:=by
 unfold aNS
 cases hd:(decide (1<=n)&&gE off n) with
 |true=>
  have hd:=Bool.and_eq_true_iff.1 hd
  have h1:=of_decide_eq_true hd.1
  obtain⟨a,b,rfl,rfl,hb⟩:=aHD hd.2
  have :=bJV a b (by omega) hb
  rw [cond_true,List.length_map,List.length_range',zA,zA]
  exact this
 |false=>
  rw [cond_false]
  have k125:=pJ off n
  by_cases h1:n<1
  ·refine aK (ob0:= []) [] Tryz.func66 rfl rfl rfl rfl ?_
   refine Wx ?_
   refine rE.mk ?_
   conv=>whnf
   refine⟨[none],?_,rfl,?_,rfl,?_⟩
   all_goals exact Cz
  ·rw [decide_eq_true (show 1<=n by omega),zC] at hd
   rw [hd] at k125
   refine aK (ob0:= []) [] Tryz.func66 rfl rfl rfl rfl ?_
   refine Wx ?_
   refine rE.mk ?_
   conv=>whnf
   refine⟨[none],?_,rfl,?_,rfl,?_⟩
   all_goals exact Cz
def uC:Option (Nat×Nat)->Int×Int
 |none=>(-1,0)
 |some (p,s)=>(p,s)
theorem aQA(o:Option (Nat×Nat)):aH5 o=.tup [.int .i64 (uC o).1,.int .i64 (uC o).2]:=by
 cases o with
 |none=>rfl
 |some x=>rfl
theorem aZM(c:Dc)(f:Nat)(off n:Int):pQ c f off n=bif decide (0<=(uC (eZ (c.fl.getD f aP) (off+n))).1) then aNS off n++ [(uC (eZ (c.fl.getD f aP) (off+n))).1] else aNS off n:=by
 unfold pQ aNS
 cases eZ (c.fl.getD f aP) (off+n) with
 |none=>exact List.append_nil _
 |some x=>
  obtain⟨p,s⟩:=x
  rw [show decide (0<=(uC (some (p,s))).1)=true from decide_eq_true (Int.natCast_nonneg p)];rfl
theorem bJL(c:Dc)(h:Ok c)(f:Nat)(hf:f<c.fl.length)(off n:Int)(ho: -9223372036854775808<=off/\off<=4611686018427387904)(hn:0<=n/\n<=1000):
 aM Tryz.prog 51 [] [.agg c.c,.int .i64 (f:Int),.int .i64 off,.int .i64 n] (.agg (aA0 c f (pQ c f off n) (pQ c f off n).length).c) []:=by
 obtain⟨l1,l2⟩:=aZN h hf off n
 have k61:=bEX c h f (off+n) hf
 rw [aQA] at k61
 have k66:=bJU off n
 have hpe:=aZM c f off n
 generalize pQ c f off n=ps at *
 generalize aNS off n=pr at *
 generalize uC (eZ (c.fl.getD f aP) (off+n))=ti at *
 obtain⟨tp,ts⟩:=ti
 dsimp only at *
 have hpr:pr.length<=9:=by
  have :pr.length<=ps.length:=by
   rw [hpe]
   cases decide (0<=tp) with
   |true=>rw [cond_true,List.length_append];omega
   |false=>exact Nat.le_refl _
  omega
 refine aK (ob0:= []) [.c 32] Tryz.func51 rfl rfl rfl rfl ?_
 refine Wx ?_
 refine⟨Unit,λ_=>True,λ_=>⟨[(1,⟨[],true,.int .i64 (f:Int)⟩),(4,⟨[],true,.ptr 0 0 0⟩),(8,⟨[],true,.ptr 1 0 0⟩),(9,⟨[],true,.lst 1 false (aE ps)⟩)],[(0,.box c.c),(1,.box [bR,bR,bR,bR,bR,bR,bR])],2⟩,?_,λ_ _=>?_⟩
 ·refine Wx ?_
  refine fP (λb=>?_) (λb=>?_)
  ·rw [decide_eq_true b,cond_true] at hpe
   refine Wx ?_
   refine⟨(),trivial,?_⟩
   simp only [hpe,aBB]
   exact Vr [some 0,some 1]
  ·rw [decide_eq_false b,cond_false] at hpe
   refine Wx ?_
   refine⟨(),trivial,?_⟩
   simp only [hpe]
   exact Vr [some 0,some 1]
 clear k61 k66 hpe hpr
 refine Wx ?_
 refine Lp (λi:Nat=>i<=ps.length) (λi=> [(12,.int .i64 (i:Int))]) (λi=> [(0,.box (aA0 c f ps i).c)]) (λi=>ps.length-i) 0 (Nat.zero_le _) ?_ ?_
 ·exact Vr [_,_]
 intro i hi
 obtain⟨o1,o2⟩:=tK h f ps i
 refine Wx ?_
 refine fP (λb=>?_) (λb=>?_)
 ·have b:i<ps.length:=by omega
  have hgl:=aZU b
  obtain⟨p,hp,hp8⟩:=l2 (ps.getD i 0) (by rw [List.getD_eq_getElem?_getD,List.getElem?_eq_getElem b];exact List.getElem_mem b)
  have hst:aA0 c f ps (i+1)=aNR (aA0 c f ps i) f (ps.getD i 0):=rfl
  rw [hp] at hgl hst
  generalize aA0 c f ps i=d at *
  have hf1:f<d.fl.length:=by rw [o2.fl];exact hf
  have k160:=bB0 f p (by have :=o1.nf;omega) (by omega)
  unfold aNR at hst
  rw [zA] at hst
  cases hpg:eA d f p with
  |some x=>
   obtain⟨m,u⟩:=x
   rw [hpg] at hst
   dsimp only at hst
   have k33:=o1.f33s hf1 hpg
   obtain⟨q1,q2,q3,q4,q5⟩:=bM o1 hf1 hpg
   have hu:=o1.use m u q1 q2
   have hgu:=jB q1 q2
   have hnr:=o1.nr
   have hv4:=hu.pg.v
   have hr4:=hu.rd
   have ho4:=or4 hv4 hr4
   have hb:fH .andNot .i64 3 ((u.p.v ||| u.rd:Nat):Int)=((jC false 3 (u.p.v ||| u.rd):Nat):Int):=dM (x:=3) (y:=u.p.v ||| u.rd) (by omega) (by omega)
   have hU:=aPR (f:=f) (p:=(p:Int)) q1 q2
   rw [zA] at hU
   have k47:=aVE d o1 ((m+1:Nat):Int) ((jC false 3 (u.p.v ||| u.rd):Nat):Int)
   have k50:=aVF (rbG d ((m+1:Nat):Int) ((jC false 3 (u.p.v ||| u.rd):Nat):Int)).1 (aEX o1 _ _) ((m+1:Nat):Int) (rT f p) true
   generalize rbG d ((m+1:Nat):Int) ((jC false 3 (u.p.v ||| u.rd):Nat):Int)=rb at *
   generalize reG rb.1 ((m+1:Nat):Int) (rT f p) true=re at *
   generalize jC false 3 (u.p.v ||| u.rd)=w at *
   by_cases x1:w=0
   ·rw [beq_iff_eq.2 x1,Bool.not_true,Bool.false_and,cond_false] at hU
    rw [hU] at hst
    refine Wx ?_
    refine Le (i+1) (hv:=?_)
    simp only [hst]
    exact Vr [_,_]
   ·rw [beq_eq_false_iff_ne.2 x1,Bool.not_false,zC] at hU
    by_cases x2:u.rd=0
    ·rw [beq_iff_eq.2 x2,cond_true] at hU
     rw [hU] at hst
     refine Wx ?_
     refine Le (i+1) (hv:=?_)
     simp only [hst]
     exact Vr [_,_]
    ·rw [beq_eq_false_iff_ne.2 x2,cond_false] at hU
     rw [hU] at hst
     refine Wx ?_
     refine Le (i+1) (hv:=?_)
     simp only [hst]
     exact Vr [_,_]
  |none=>
   rw [hpg] at hst
   dsimp only at hst
   have k33:=o1.f33n hf1 hpg
   have k30:=bIN d o1 (f:Int) (p:Int) 0 ((d.zo.length:Int)-1) true
   have hzl:=aAI o1.zone
   have o3:=aD2 o1 (f:Int) (p:Int) 0 ((d.zo.length:Int)-1) true
   by_cases e:(iZ d (f:Int) (p:Int) 0 ((d.zo.length:Int)-1) true).2.2=0
   ·obtain⟨m,u,e1,q1,q2⟩:=aU0 o1 e
    rw [beq_iff_eq.2 e,cond_true,e1] at hst
    rw [e,e1] at k30
    generalize iZ d (f:Int) (p:Int) 0 ((d.zo.length:Int)-1) true=g at *
    obtain⟨d2,g1,g2⟩:=g
    dsimp only at *
    have hu:=o3.use m u q1 q2
    have hgu:=jB q1 q2
    have hnr:=o3.nr
    have hv4:=hu.pg.v
    have hr4:=hu.rd
    have ho4:=or4 hv4 hr4
    have hb:fH .andNot .i64 3 ((u.p.v ||| u.rd:Nat):Int)=((jC false 3 (u.p.v ||| u.rd):Nat):Int):=dM (x:=3) (y:=u.p.v ||| u.rd) (by omega) (by omega)
    have hU:=aPR (f:=f) (p:=(p:Int)) q1 q2
    rw [zA] at hU
    have k47:=aVE d2 o3 ((m+1:Nat):Int) ((jC false 3 (u.p.v ||| u.rd):Nat):Int)
    have k50:=aVF (rbG d2 ((m+1:Nat):Int) ((jC false 3 (u.p.v ||| u.rd):Nat):Int)).1 (aEX o3 _ _) ((m+1:Nat):Int) (rT f p) true
    generalize rbG d2 ((m+1:Nat):Int) ((jC false 3 (u.p.v ||| u.rd):Nat):Int)=rb at *
    generalize reG rb.1 ((m+1:Nat):Int) (rT f p) true=re at *
    generalize jC false 3 (u.p.v ||| u.rd)=w at *
    by_cases x1:w=0
    ·rw [beq_iff_eq.2 x1,Bool.not_true,Bool.false_and,cond_false] at hU
     rw [hU] at hst
     refine Wx ?_
     refine Le (i+1) (hv:=?_)
     simp only [hst]
     exact Vr [_,_]
    ·rw [beq_eq_false_iff_ne.2 x1,Bool.not_false,zC] at hU
     by_cases x2:u.rd=0
     ·rw [beq_iff_eq.2 x2,cond_true] at hU
      rw [hU] at hst
      refine Wx ?_
      refine Le (i+1) (hv:=?_)
      simp only [hst]
      exact Vr [_,_]
     ·rw [beq_eq_false_iff_ne.2 x2,cond_false] at hU
      rw [hU] at hst
      refine Wx ?_
      refine Le (i+1) (hv:=?_)
      simp only [hst]
      exact Vr [_,_]
   ·rw [beq_eq_false_iff_ne.2 e,cond_false] at hst
    generalize iZ d (f:Int) (p:Int) 0 ((d.zo.length:Int)-1) true=g at *
    obtain⟨d2,g1,g2⟩:=g
    dsimp only at *
    refine Wx ?_
    refine Le (i+1) (hv:=?_)
    simp only [hst]
    exact Vr [_,_]
 obtain rfl:i=ps.length:=by omega
 exact Wz
end Go.Proofs.YtmhapcbjjpadnaaGreat
