/- Caches. -/
import Derived.Test.YtmhapcbjjpadnaaGreatGJg
set_option linter.all false
set_option maxHeartbeats 8000000
set_option maxRecDepth 40000
open Bool renaming true_and→zC
open Int renaming toNat_natCast→zA
namespace Go.Proofs.YtmhapcbjjpadnaaGreat
open Go Go.Sk Go.RowKit
theorem aT4 {d:Dc} {f:Nat} {p:Int} {m:Nat} {u:Us} (h1:m<d.fr.length)(h2:d.fr.getD m none=some u):aLH d f p ((m+1:Nat):Int)=bif !(mK false 3 (u.p.v ||| u.rd)==0)&&u.rd==0 then(reG (rbG d ((m+1:Nat):Int) (mK false 3 (u.p.v ||| u.rd):Nat)).1 ((m+1:Nat):Int) (tK f p.toNat) true).1 else d:=by
 have :fW d ((m+1:Nat):Int)=some (m,u):=by unfold fW;rw [mU h1 h2,show(((m+1:Nat):Int)-1).toNat=m by omega,h2];rfl
 unfold aLH;rw [this]
def aQS(off n:Int):List Int:=bif decide (1<=n)&&nF off n then(List.range' (off.toNat/16) (vN off.toNat n.toNat)).map (λx:Nat=>(x:Int)) else []
theorem bPP(off n:Int):aM Tryz.prog 66 [] [.int .i64 off,.int .i64 n] (.sl 0 0 (aQS off n).length) [.row 1 (aB (aQS off n))]:=by
 unfold aQS
 cases e:(decide (1<=n)&&nF off n) with
 |true=> have e:=Bool.and_eq_true_iff.1 e;have h1:=of_decide_eq_true e.1;obtain⟨a,b,rfl,rfl,j⟩:=aPM e.2;have :=bPQ a b (by omega) j;rw [zct,List.length_map,List.length_range',zA,zA];exact this
 |false=>
  rw [zcf];have f:=aBA off n
  by_cases h1:n<1
  ·refine aG (ob0:= []) [] Tryz.func66 rfl rfl rfl rfl ?_;refine Wx ?_;refine pG.mk ?_
   conv=>whnf
   refine⟨[none],?_,rfl,?_,rfl,?_⟩
   all_goals exact Cz
  ·rw [zdt (show 1<=n by omega),zC] at e;rw [e] at f;refine aG (ob0:= []) [] Tryz.func66 rfl rfl rfl rfl ?_;refine Wx ?_;refine pG.mk ?_
   conv=>whnf
   refine⟨[none],?_,rfl,?_,rfl,?_⟩
   all_goals exact Cz
def aJZ:Option (Nat×Nat)->Int×Int
 |none=>(-1,0)
 |some (p,s)=>(p,s)
theorem bEH(o:Option (Nat×Nat)):aK0 o=.tup [.int .i64 (aJZ o).1,.int .i64 (aJZ o).2]:=by
 cases o with
 |none=>rfl
 |some x=>rfl
theorem bE4(c:Dc)(f:Nat)(off n:Int):aBK c f off n=bif decide (0<=(aJZ (oX (c.fl.getD f aX) (off+n))).1) then aQS off n++ [(aJZ (oX (c.fl.getD f aX) (off+n))).1] else aQS off n:=by
 unfold aBK aQS
 cases oX (c.fl.getD f aX) (off+n) with
 |none=>exact List.append_nil _
 |some x=> obtain⟨p,s⟩:=x;rw [show decide (0<=(aJZ (some (p,s))).1)=true from zdt (Int.natCast_nonneg p)];rfl
theorem bRT(c:Dc)(h:Ok c)(f:Nat)(R:f<c.fl.length)(off n:Int)(ho: -9223372036854775808<=off/\off<=4611686018427387904)(hn:0<=n/\n<=1000):
 aM Tryz.prog 51 [] [.agg c.c,.int .i64 (f:Int),.int .i64 off,.int .i64 n] (.agg (aD1 c f (aBK c f off n) (aBK c f off n).length).c) []:=by
 obtain⟨l1,l2⟩:=bE5 h R off n;have K:=bPO c h f (off+n) R;rw [bEH] at K;have af:=bPP off n;have B:=bE4 c f off n;generalize aBK c f off n=C at *;generalize aQS off n=pr at *;generalize aJZ (oX (c.fl.getD f aX) (off+n))=ti at *;obtain⟨tp,ts⟩:=ti;dsimp only at *
 have aa:pr.length<=9:=by
  have :pr.length<=C.length:=by
   rw [B]
   cases decide (0<=tp) with
   |true=>rw [zct,List.length_append];omega
   |false=>exact Nat.le_refl _
  omega
 refine aG (ob0:= []) [.c 32] Tryz.func51 rfl rfl rfl rfl ?_;refine Wx ?_;refine⟨Unit,λ_=>True,λ_=>⟨[(1,⟨[],true,.int .i64 (f:Int)⟩),(4,⟨[],true,.ptr 0 0 0⟩),(8,⟨[],true,.ptr 1 0 0⟩),(9,⟨[],true,.lst 1 false (aB C)⟩)],[(0,.box c.c),(1,.box [bJ,bJ,bJ,bJ,bJ,bJ,bJ])],2⟩,?_,λ_ _=>?_⟩
 ·refine Wx ?_;refine iF (λb=>?_) (λb=>?_)
  ·rw [zdt b,zct] at B;refine Wx ?_;refine⟨(),trivial,?_⟩;simp only [B,aD4];exact Vr [some 0,some 1]
  ·rw [zdf b,zcf] at B;refine Wx ?_;refine⟨(),trivial,?_⟩;simp only [B];exact Vr [some 0,some 1]
 clear K af B aa;refine Wx ?_;refine Lp (λi:Nat=>i<=C.length) (λi=> [(12,.int .i64 (i:Int))]) (λi=> [(0,.box (aD1 c f C i).c)]) (λi=>C.length-i) 0 (Nat.zero_le _) ?_ ?_
 ·exact Vr [_,_]
 intro i hi;obtain⟨D,o2⟩:=aBJ h f C i;refine Wx ?_;refine iF (λb=>?_) (λb=>?_)
 ·have b:i<C.length:=by omega
  have T:=aOP b;obtain⟨p,hp,ah⟩:=l2 (C.getD i 0) (by rw [List.getD_eq_getElem?_getD,List.getElem?_eq_getElem b];exact List.getElem_mem b);have j:aD1 c f C (i+1)=aQR (aD1 c f C i) f (C.getD i 0):=rfl;rw [hp] at T j;generalize aD1 c f C i=d at *;have F:f<d.fl.length:=by rw [o2.fl];exact R
  have ag:=bGA f p (by have :=D.nf;omega) (by omega);unfold aQR at j;rw [zA] at j
  cases E:jH d f p with
  |some x=>
   obtain⟨m,u⟩:=x;rw [E] at j;dsimp only at j;have ac:=D.f33s F E;obtain⟨q1,q2,q3,q4,q5⟩:=cY D F E;have J:=D.use m u q1 q2;have W:=qW q1 q2;have Y:=D.nr;have H:=J.pg.v;have G:=J.rd;have Z:=or4 H G;have hb:fX .andNot .i64 3 ((u.p.v ||| u.rd:Nat):Int)=((mK false 3 (u.p.v ||| u.rd):Nat):Int):=iU (x:=3) (y:=u.p.v ||| u.rd) (by omega) (by omega)
   have z:=aT4 (f:=f) (p:=(p:Int)) q1 q2;rw [zA] at z;have ad:=aZO d D ((m+1:Nat):Int) ((mK false 3 (u.p.v ||| u.rd):Nat):Int)
   have ae:=aZP (rbG d ((m+1:Nat):Int) ((mK false 3 (u.p.v ||| u.rd):Nat):Int)).1 (aHF D _ _) ((m+1:Nat):Int) (tK f p) true
   generalize rbG d ((m+1:Nat):Int) ((mK false 3 (u.p.v ||| u.rd):Nat):Int)=rb at *
   generalize reG rb.1 ((m+1:Nat):Int) (tK f p) true=re at *;generalize mK false 3 (u.p.v ||| u.rd)=w at *
   by_cases M:w=0
   ·rw [zbe.2 M,Bool.not_true,Bool.false_and,zcf] at z;rw [z] at j;refine Wx ?_;refine Le (i+1) (hv:=?_);simp only [j];exact Vr [_,_]
   ·rw [zbn.2 M,Bool.not_false,zC] at z
    by_cases N:u.rd=0
    ·rw [zbe.2 N,zct] at z;rw [z] at j;refine Wx ?_;refine Le (i+1) (hv:=?_);simp only [j];exact Vr [_,_]
    ·rw [zbn.2 N,zcf] at z;rw [z] at j;refine Wx ?_;refine Le (i+1) (hv:=?_);simp only [j];exact Vr [_,_]
  |none=>
   rw [E] at j;dsimp only at j;have ac:=D.f33n F E;have ab:=bJR d D (f:Int) (p:Int) 0 ((d.zo.length:Int)-1) true;have ai:=aC5 D.zone;have Q:=aB1 D (f:Int) (p:Int) 0 ((d.zo.length:Int)-1) true
   by_cases e:(iZ d (f:Int) (p:Int) 0 ((d.zo.length:Int)-1) true).2.2=0
   ·obtain⟨m,u,e1,q1,q2⟩:=aYA D e;rw [zbe.2 e,zct,e1] at j;rw [e,e1] at ab;generalize iZ d (f:Int) (p:Int) 0 ((d.zo.length:Int)-1) true=g at *;obtain⟨O,g1,g2⟩:=g;dsimp only at *;have J:=Q.use m u q1 q2;have W:=qW q1 q2;have Y:=Q.nr;have H:=J.pg.v;have G:=J.rd;have Z:=or4 H G;have hb:fX .andNot .i64 3 ((u.p.v ||| u.rd:Nat):Int)=((mK false 3 (u.p.v ||| u.rd):Nat):Int):=iU (x:=3) (y:=u.p.v ||| u.rd) (by omega) (by omega)
    have z:=aT4 (f:=f) (p:=(p:Int)) q1 q2;rw [zA] at z;have ad:=aZO O Q ((m+1:Nat):Int) ((mK false 3 (u.p.v ||| u.rd):Nat):Int)
    have ae:=aZP (rbG O ((m+1:Nat):Int) ((mK false 3 (u.p.v ||| u.rd):Nat):Int)).1 (aHF Q _ _) ((m+1:Nat):Int) (tK f p) true
    generalize rbG O ((m+1:Nat):Int) ((mK false 3 (u.p.v ||| u.rd):Nat):Int)=rb at *
    generalize reG rb.1 ((m+1:Nat):Int) (tK f p) true=re at *;generalize mK false 3 (u.p.v ||| u.rd)=w at *
    by_cases M:w=0
    ·rw [zbe.2 M,Bool.not_true,Bool.false_and,zcf] at z;rw [z] at j;refine Wx ?_;refine Le (i+1) (hv:=?_);simp only [j];exact Vr [_,_]
    ·rw [zbn.2 M,Bool.not_false,zC] at z
     by_cases N:u.rd=0
     ·rw [zbe.2 N,zct] at z;rw [z] at j;refine Wx ?_;refine Le (i+1) (hv:=?_);simp only [j];exact Vr [_,_]
     ·rw [zbn.2 N,zcf] at z;rw [z] at j;refine Wx ?_;refine Le (i+1) (hv:=?_);simp only [j];exact Vr [_,_]
   ·rw [zbn.2 e,zcf] at j;generalize iZ d (f:Int) (p:Int) 0 ((d.zo.length:Int)-1) true=g at *;obtain⟨O,g1,g2⟩:=g;dsimp only at *;refine Wx ?_;refine Le (i+1) (hv:=?_);simp only [j];exact Vr [_,_]
 obtain rfl:i=C.length:=by omega
 exact Wz
end Go.Proofs.YtmhapcbjjpadnaaGreat
