/- Caches. -/
import Derived.Test.YtmhapcbjjpadnaaGreatQSc
import Derived.Test.YtmhapcbjjpadnaaGreatQMc
import Derived.Test.YtmhapcbjjpadnaaGreatQKc
set_option linter.all false
set_option maxHeartbeats 32000000
set_option maxRecDepth 40000
namespace Go.Proofs.YtmhapcbjjpadnaaGreat
open Go Go.Sk Go.RowKit
theorem aT1 {c:Dc} (h:Ok c)(h2:c.gr.length=1\/c.gr.length=2)(n:Int):∀k,k<=(bM c).length->(eK c n (bM c) k).length<=64*k
 |0,_=>Nat.le_refl _
 |k+1,z=>by have B:=aT1 h h2 n k (by omega);obtain⟨t,m,f⟩:=aP1 h2 (show k< (bM c).length by omega);have j:=((bF _).1 (h.ls t (by rw [h.nl];exact f))).len;have :=lG (c:=c) (n:=n) (l:=uG c (t:Int)) (out:=eK c n (bM c) k) (uG c (t:Int)).length;rw [eK,m];have e:(uG c (t:Int)).length=((c.ls.getD t l0).A++(c.ls.getD t l0).I).length:=rfl;omega
theorem bSZ(c:Dc)(h:Ok c)(h2:c.gr.length=2)(n:Int):aM Tryz.prog 24 [] [.agg c.c,.int .i64 n] (.lst 1 false (aB (eK c n (bM c) (bM c).length))) []:=by
 by_cases e:exT c 0<exT c 1
 ·exact bPM c h h2 e n
 ·exact bPL c h h2 e n
noncomputable def R3:Rsv Tryz.prog Tryz.f3 [] 2:=⟨_,_,rfl,rfl⟩
theorem ok3(L:List Int)(E:(L.length:Int)<2^62)(n:Int):aM Tryz.prog 3 [] [.lst 1 false (aB L),.int .i64 n] (.bool true) []:=by
 obtain⟨c,J0,M,H,al⟩:=bSW L E;obtain⟨e,ad,j,af,ae⟩:=M.ok;have Y:=M.okP;clear M;have am:=bOP n 12 (by decide);obtain⟨q1,q2⟩:=aSJ n 12 (by decide) (by decide);generalize aNL n 12=k at *;obtain⟨a,J1,ha,J,d1⟩:=draw L E H 4 (by decide) (by decide);obtain⟨b,J2,hb,K,d2⟩:=draw L E J 2 (by decide) (by decide);obtain⟨d,J3,ag,ac,d3⟩:=draw L E K 20 (by decide) (by decide);have ao:=bK1 c e;have ap:=bP4 c e
 have aa:=aOS _ _ (vD e c.fr.length) (aKV (vC.refl c) Y c.fr.length).1;have Q:=bP9 c e (k-1) (by omega);have aq:=bPB c e (k-1) (by omega);have W:=bB9 e Y (k-1);have ab:=aOS _ _ (bEX e (k-1)) W.sim;rw [W.eq] at Q;have ar:=bPC c e (.inr j) (k-1);have au:=bSZ c e j (k-1);have ai:(eK c (k-1) (bM c) (bM c).length).length<=1000:=by have :=aT1 e (.inr j) (k-1) (bM c).length (Nat.le_refl _);have :=uM (c:=c) (.inr j);omega
 have R:=bKC c e ((a:Int)-1) (k-1) ((b:Int)==0);have av:=bT0 c e ((a:Int)-1) (k-1) ((b:Int)==0);rw [bEN] at R;have aw:=bT1;clear W;generalize gW c c.fr.length=g1 at *;generalize dG c c.fr.length=g2 at *;generalize(aMC c (k-1)).2=p2 at *;generalize(aMC c (k-1)).1=r2 at *;generalize(qC c (k-1)).1=x2 at *;generalize eK c (k-1) (bM c) (bM c).length=f at *;generalize aWN c ((a:Int)-1) (k-1) ((b:Int)==0)=F at *;have ay:(p2 != p2)=false:=by simp
 have ah:(aB f).length=f.length:=aA _;have ax:((f.length:Int) != (f.length:Int))=false:=by simp
 have az:(F==F)=true:=by simp
 have aj:IntKind.i64.wrap ((a:Int)-1)=(a:Int)-1:=aP;have ak:IntKind.i64.wrap (k-1)=k-1:=aP
 by_cases Z:d=0
 ·subst Z;have m:(4611686018427387904:Int)<=4611686018427387904/\-1000<=(4611686018427387904:Int):=by decide
  have z:=aZV c e ((a:Int)-1) 4611686018427387904;have O:=bGX c e ((a:Int)-1) 4611686018427387904 m;have B:=aPU e ((a:Int)-1) 4611686018427387904;have C:=aOS _ _ (aUP e ((a:Int)-1) 4611686018427387904) B.sim;rw [B.eq] at z;clear B;generalize(aIJ c ((a:Int)-1) 4611686018427387904).2=D at *;generalize(aIJ c ((a:Int)-1) 4611686018427387904).1=r1 at *;generalize(aDW c ((a:Int)-1) 4611686018427387904).1=x1 at *;have T:(D != D)=false:=by simp
  refine fnZ R3 Tryz.func3 ?_;refine Wy ?_;refine Lp (λi:Nat=>i<=f.length) (λi=> [(16,.int .i64 (i:Int))]) (λi=> []) (λi=>f.length-i) 0 (Nat.zero_le _) ?_ ?_
  ·exact Vr [some 0,some 16,some 65,some 66]
  intro i hi
  by_cases G:i<f.length
  ·have N:(aB f).getD i []=[.int .i64 (f.getD i 0)]:=aC9 G;have ni:(f.getD i 0 != f.getD i 0)=false:=by simp
   refine Wy ?_;refine Le (i+1) (hv:=?_);exact Vr [some 0,some 1,some 2,some 3]
  obtain rfl:i=f.length:=by omega
  cases F with
  |true=>exact kK
  |false=>exact kK
 ·have m:k-1<=(4611686018427387904:Int)/\-1000<=k-1:=by omega
  have z:=aZV c e ((a:Int)-1) (k-1);have O:=bGX c e ((a:Int)-1) (k-1) m;have B:=aPU e ((a:Int)-1) (k-1);have C:=aOS _ _ (aUP e ((a:Int)-1) (k-1)) B.sim;rw [B.eq] at z;clear B;generalize(aIJ c ((a:Int)-1) (k-1)).2=D at *;generalize(aIJ c ((a:Int)-1) (k-1)).1=r1 at *;generalize(aDW c ((a:Int)-1) (k-1)).1=x1 at *;have T:(D != D)=false:=by simp
  have nd:((d:Int)==0)=false:=by simpa using Z
  refine fnZ R3 Tryz.func3 ?_;refine Wy ?_;refine Lp (λi:Nat=>i<=f.length) (λi=> [(16,.int .i64 (i:Int))]) (λi=> []) (λi=>f.length-i) 0 (Nat.zero_le _) ?_ ?_
  ·exact Vr [some 0,some 16,some 65,some 66]
  intro i hi
  by_cases G:i<f.length
  ·have N:(aB f).getD i []=[.int .i64 (f.getD i 0)]:=aC9 G;have ni:(f.getD i 0 != f.getD i 0)=false:=by simp
   refine Wy ?_;refine Le (i+1) (hv:=?_);exact Vr [some 0,some 1,some 2,some 3]
  obtain rfl:i=f.length:=by omega
  cases F with
  |true=>exact kK
  |false=>exact kK
end Go.Proofs.YtmhapcbjjpadnaaGreat
