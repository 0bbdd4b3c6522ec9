/- Caches. -/
import Derived.Test.YtmhapcbjjpadnaaGreatGJc
set_option linter.all false
set_option maxHeartbeats 8000000
set_option maxRecDepth 40000
open Bool renaming true_and→zC
open Int renaming toNat_natCast→zA
namespace Go.Proofs.YtmhapcbjjpadnaaGreat
open Go Go.Sk Go.RowKit
theorem aTZ {d:Dc} {f:Nat} {p:Int} {m:Nat} {u:Us} (e:m<d.fr.length)(h2:d.fr.getD m none=some u):aM4 d f p ((m+1:Nat):Int)=bif !(mW false 3 (u.p.v ||| u.rd)==0)&&u.rd==0 then(reG (rbG d ((m+1:Nat):Int) (mW false 3 (u.p.v ||| u.rd):Nat)).1 ((m+1:Nat):Int) (tU f p.toNat) true).1 else d:=by
 have :fW d ((m+1:Nat):Int)=some (m,u):=by unfold fW;rw [nJ e h2,show(((m+1:Nat):Int)-1).toNat=m by omega,h2];rfl
 unfold aM4;rw [this]
def aRK(off n:Int):List Int:=bif decide (1<=n)&&nU off n then(List.range' (off.toNat/16) (aA5 off.toNat n.toNat)).map (λx:Nat=>(x:Int)) else []
theorem bR0(off n:Int):aM Tryz.prog 66 [] [.int .i64 off,.int .i64 n] (.sl 0 0 (aRK off n).length) [.row 1 (aB (aRK off n))]:=by
 unfold aRK
 cases e:(decide (1<=n)&&nU off n) with
 |true=> have e:=Bool.and_eq_true_iff.1 e;have j:=of_decide_eq_true e.1;obtain⟨a,b,rfl,rfl,m⟩:=aQG e.2;have :=bR1 a b (by omega) m;rw [zct,List.length_map,List.length_range',zA,zA];exact this
 |false=>
  rw [zcf];have f:=aBV off n
  by_cases j:n<1
  ·refine aE (ob0:= []) [] Tryz.func66 rfl rfl rfl rfl ?_;refine Wx ?_;refine pR.mk ?_
   conv=>whnf
   refine⟨[none],?_,rfl,?_,rfl,?_⟩
   all_goals exact Cz
  ·rw [zdt (show 1<=n by omega),zC] at e;rw [e] at f;refine aE (ob0:= []) [] Tryz.func66 rfl rfl rfl rfl ?_;refine Wx ?_;refine pR.mk ?_
   conv=>whnf
   refine⟨[none],?_,rfl,?_,rfl,?_⟩
   all_goals exact Cz
def aKI:Option (Nat×Nat)->Int×Int
 |none=>(-1,0)
 |some (p,s)=>(p,s)
theorem bEZ(o:Option (Nat×Nat)):aKJ o=.tup [.int .i64 (aKI o).1,.int .i64 (aKI o).2]:=by
 cases o with
 |none=>rfl
 |some x=>rfl
theorem bEG(c:Dc)(f:Nat)(off n:Int):aC6 c f off n=bif decide (0<=(aKI (pM (c.fl.getD f aZ) (off+n))).1) then aRK off n++ [(aKI (pM (c.fl.getD f aZ) (off+n))).1] else aRK off n:=by
 unfold aC6 aRK
 cases pM (c.fl.getD f aZ) (off+n) with
 |none=>exact List.append_nil _
 |some x=> obtain⟨p,s⟩:=x;rw [show decide (0<=(aKI (some (p,s))).1)=true from zdt (Int.natCast_nonneg p)];rfl
theorem bT7(c:Dc)(h:Ok c)(f:Nat)(R:f<c.fl.length)(off n:Int)(ho: -9223372036854775808<=off/\off<=4611686018427387904)(hn:0<=n/\n<=1000):
 aM Tryz.prog 51 [] [.agg c.c,.int .i64 (f:Int),.int .i64 off,.int .i64 n] (.agg (aDN c f (aC6 c f off n) (aC6 c f off n).length).c) []:=by
 obtain⟨l1,l2⟩:=bEH h R off n;have K:=bQZ c h f (off+n) R;rw [bEZ] at K;have af:=bR0 off n;have B:=bEG c f off n;generalize aC6 c f off n=C at *;generalize aRK off n=pr at *;generalize aKI (pM (c.fl.getD f aZ) (off+n))=ti at *;obtain⟨tp,ts⟩:=ti;dsimp only at *
 have aa:pr.length<=9:=by
  have :pr.length<=C.length:=by
   rw [B]
   cases decide (0<=tp) with
   |true=>rw [zct,List.length_append];omega
   |false=>exact Nat.le_refl _
  omega
 refine aE (ob0:= []) [.c 32] Tryz.func51 rfl rfl rfl rfl ?_;refine Wx ?_;refine⟨Unit,λ_=>True,λ_=>⟨[(1,⟨[],true,.int .i64 (f:Int)⟩),(4,⟨[],true,.ptr 0 0 0⟩),(8,⟨[],true,.ptr 1 0 0⟩),(9,⟨[],true,.lst 1 false (aB C)⟩)],[(0,.box c.c),(1,.box [bL,bL,bL,bL,bL,bL,bL])],2⟩,?_,λ_ _=>?_⟩
 ·refine Wx ?_;refine gE (λb=>?_) (λb=>?_)
  ·rw [zdt b,zct] at B;refine Wx ?_;refine⟨(),trivial,?_⟩;simp only [B,aDQ];exact Vr [some 0,some 1]
  ·rw [zdf b,zcf] at B;refine Wx ?_;refine⟨(),trivial,?_⟩;simp only [B];exact Vr [some 0,some 1]
 clear K af B aa;refine Wx ?_;refine Lp (λi:Nat=>i<=C.length) (λi=> [(12,.int .i64 (i:Int))]) (λi=> [(0,.box (aDN c f C i).c)]) (λi=>C.length-i) 0 (Nat.zero_le _) ?_ ?_
 ·exact Vr [_,_]
 intro i hi;obtain⟨D,o2⟩:=aC5 h f C i;refine Wx ?_;refine gE (λb=>?_) (λb=>?_)
 ·have b:i<C.length:=by omega
  have T:=aC9 b;obtain⟨p,hp,ah⟩:=l2 (C.getD i 0) (by rw [List.getD_eq_getElem?_getD,List.getElem?_eq_getElem b];exact List.getElem_mem b);have j:aDN c f C (i+1)=aRJ (aDN c f C i) f (C.getD i 0):=rfl;rw [hp] at T j;generalize aDN c f C i=d at *;have F:f<d.fl.length:=by rw [o2.fl];exact R
  have ag:=bGW f p (by have :=D.nf;omega) (by omega);unfold aRJ at j;rw [zA] at j
  cases E:jP d f p with
  |some x=>
   obtain⟨m,u⟩:=x;rw [E] at j;dsimp only at j;have ac:=D.f33s F E;obtain⟨q1,q2,q3,q4,q5⟩:=dH D F E;have J:=D.use m u q1 q2;have W:=qA q1 q2;have Y:=D.nr;have H:=J.pg.v;have G:=J.rd;have Z:=or4 H G;have hb:gC .andNot .i64 3 ((u.p.v ||| u.rd:Nat):Int)=((mW false 3 (u.p.v ||| u.rd):Nat):Int):=jD (x:=3) (y:=u.p.v ||| u.rd) (by omega) (by omega)
   have z:=aTZ (f:=f) (p:=(p:Int)) q1 q2;rw [zA] at z;have ad:=bAF d D ((m+1:Nat):Int) ((mW false 3 (u.p.v ||| u.rd):Nat):Int)
   have ae:=bAG (rbG d ((m+1:Nat):Int) ((mW false 3 (u.p.v ||| u.rd):Nat):Int)).1 (aI4 D _ _) ((m+1:Nat):Int) (tU f p) true
   generalize rbG d ((m+1:Nat):Int) ((mW false 3 (u.p.v ||| u.rd):Nat):Int)=rb at *
   generalize reG rb.1 ((m+1:Nat):Int) (tU f p) true=re at *;generalize mW false 3 (u.p.v ||| u.rd)=w at *
   by_cases M:w=0
   ·rw [zbe.2 M,Bool.not_true,Bool.false_and,zcf] at z;rw [z] at j;refine Wx ?_;refine Le (i+1) (hv:=?_);simp only [j];exact Vr [_,_]
   ·rw [zbn.2 M,Bool.not_false,zC] at z
    by_cases N:u.rd=0
    ·rw [zbe.2 N,zct] at z;rw [z] at j;refine Wx ?_;refine Le (i+1) (hv:=?_);simp only [j];exact Vr [_,_]
    ·rw [zbn.2 N,zcf] at z;rw [z] at j;refine Wx ?_;refine Le (i+1) (hv:=?_);simp only [j];exact Vr [_,_]
  |none=>
   rw [E] at j;dsimp only at j;have ac:=D.f33n F E;have ab:=bKI d D (f:Int) (p:Int) 0 ((d.zo.length:Int)-1) true;have ai:=aCU D.zone;have Q:=aBK D (f:Int) (p:Int) 0 ((d.zo.length:Int)-1) true
   by_cases e:(jI d (f:Int) (p:Int) 0 ((d.zo.length:Int)-1) true).2.2=0
   ·obtain⟨m,u,e1,q1,q2⟩:=aZ4 D e;rw [zbe.2 e,zct,e1] at j;rw [e,e1] at ab;generalize jI d (f:Int) (p:Int) 0 ((d.zo.length:Int)-1) true=g at *;obtain⟨O,g1,g2⟩:=g;dsimp only at *;have J:=Q.use m u q1 q2;have W:=qA q1 q2;have Y:=Q.nr;have H:=J.pg.v;have G:=J.rd;have Z:=or4 H G;have hb:gC .andNot .i64 3 ((u.p.v ||| u.rd:Nat):Int)=((mW false 3 (u.p.v ||| u.rd):Nat):Int):=jD (x:=3) (y:=u.p.v ||| u.rd) (by omega) (by omega)
    have z:=aTZ (f:=f) (p:=(p:Int)) q1 q2;rw [zA] at z;have ad:=bAF O Q ((m+1:Nat):Int) ((mW false 3 (u.p.v ||| u.rd):Nat):Int)
    have ae:=bAG (rbG O ((m+1:Nat):Int) ((mW false 3 (u.p.v ||| u.rd):Nat):Int)).1 (aI4 Q _ _) ((m+1:Nat):Int) (tU f p) true
    generalize rbG O ((m+1:Nat):Int) ((mW false 3 (u.p.v ||| u.rd):Nat):Int)=rb at *
    generalize reG rb.1 ((m+1:Nat):Int) (tU f p) true=re at *;generalize mW false 3 (u.p.v ||| u.rd)=w at *
    by_cases M:w=0
    ·rw [zbe.2 M,Bool.not_true,Bool.false_and,zcf] at z;rw [z] at j;refine Wx ?_;refine Le (i+1) (hv:=?_);simp only [j];exact Vr [_,_]
    ·rw [zbn.2 M,Bool.not_false,zC] at z
     by_cases N:u.rd=0
     ·rw [zbe.2 N,zct] at z;rw [z] at j;refine Wx ?_;refine Le (i+1) (hv:=?_);simp only [j];exact Vr [_,_]
     ·rw [zbn.2 N,zcf] at z;rw [z] at j;refine Wx ?_;refine Le (i+1) (hv:=?_);simp only [j];exact Vr [_,_]
   ·rw [zbn.2 e,zcf] at j;generalize jI d (f:Int) (p:Int) 0 ((d.zo.length:Int)-1) true=g at *;obtain⟨O,g1,g2⟩:=g;dsimp only at *;refine Wx ?_;refine Le (i+1) (hv:=?_);simp only [j];exact Vr [_,_]
 obtain rfl:i=C.length:=by omega
 exact Wz
end Go.Proofs.YtmhapcbjjpadnaaGreat
