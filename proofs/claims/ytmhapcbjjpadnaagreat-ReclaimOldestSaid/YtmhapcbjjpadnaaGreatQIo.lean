/- Caches. -/
import Derived.Test.YtmhapcbjjpadnaaGreatQAo
import Derived.Test.YtmhapcbjjpadnaaGreatG2o
import Derived.Test.YtmhapcbjjpadnaaGreatK8o
set_option linter.all false
set_option maxHeartbeats 8000000
set_option maxRecDepth 40000
open Int renaming toNat_natCast→zA
namespace Go.Proofs.YtmhapcbjjpadnaaGreat
open Go Go.Sk Go.RowKit
def rmP(u:Bool):Nat->List Zn->Bool
 |0,_=>true
 |n+1,l=>bif (cV (l.map iX) l ((l.length:Int)-1) u).2.2==0 then rmP u n (cV (l.map iX) l ((l.length:Int)-1) u).1 else false
def bFD(c:Dc)(t n:Int):Bool:=decide ((0<=t/\t< (c.gr.length:Int))/\0<=n/\n<=(c.gr.getD t.toNat g0).lim- (c.gr.getD t.toNat g0).chg)
def aYK(c:Dc)(t n:Int)(u:Bool):Bool:=bif bFD c t n then rmP u n.toNat c.zo else false
theorem bGJ {l:List Gr} (h:nR l=true) {i:Nat} (hi:i<l.length):(1<=(l.getD i g0).lim/\(l.getD i g0).lim<=64)/\0<=(l.getD i g0).chg/\(l.getD i g0).chg<=64:=by have e:=iH (Bool.and_eq_true _ _▸h).1 hi;unfold mM aOA at e;simp only [Bool.or_eq_false_iff,zdn] at e;omega
noncomputable def R25:Rsv Tryz.prog Tryz.f25 [] 4:=⟨_,_,rfl,rfl⟩
theorem bMJ(c:Dc)(h:Ok c)(t n:Int)(u:Bool):aN Tryz.prog 25 [] [.agg c.c,.int .i64 t,.int .i64 n,.bool u] (.bool (aYK c t n u)) []:=by
 have F:=bHY c h t;generalize B:aYK c t n u=q;unfold aYK bFD at B
 by_cases a:0<=t/\t< (c.gr.length:Int)
 rotate_left
 ·rw [zdf a] at F;rw [zdf (λx=>a x.1),zcf] at B;subst B
  have C:(∃g:Gr,(aR c.gr).getD t.toNat []=g.c)\/(aR c.gr).getD t.toNat []=[]:=by
   by_cases x:t.toNat<c.gr.length
   ·have :=dV c.gr t.toNat x;rw [zA] at this;exact .inl ⟨_,this⟩
   ·right;rw [List.getD_eq_getElem?_getD,List.getElem?_eq_none (by simp [aR];omega)];rfl
  rcases C with ⟨g,hg⟩|hg
  ·refine fnZ R25 Tryz.func25 ?_;exact tT
  ·refine fnZ R25 Tryz.func25 ?_;exact tT
 rw [zdt a] at F;obtain⟨t,rfl⟩:∃j:Nat,t=(j:Int):=⟨t.toNat,by omega⟩;have O:t<c.gr.length:=by omega
 rw [zA] at B;have K:=dV c.gr t O;rw [zA] at K;have T:(aR c.gr).length=c.gr.length:=by simp [aR]
 obtain⟨l1,l2⟩:=bGJ h.gr O
 by_cases M:0<=n
 rotate_left
 ·rw [zdf (λx=>M x.2.1),zcf] at B;subst B;refine fnZ R25 Tryz.func25 ?_;exact tT
 by_cases N:n<=(c.gr.getD t g0).lim- (c.gr.getD t g0).chg
 rotate_left
 ·rw [zdf (λx=>N x.2.2),zcf] at B;subst B;generalize c.gr.getD t g0=g at *;refine fnZ R25 Tryz.func25 ?_;exact tT
 rw [zdt ⟨a,M,N⟩,zct] at B;obtain⟨n,rfl⟩:∃j:Nat,n=(j:Int):=⟨n.toNat,by omega⟩;rw [zA] at B;generalize c.gr.getD t g0=g at *;have hz:=h.zone;refine fnZ R25 Tryz.func25 ?_;refine Wy ?_;refine Lp (α:=Nat×List Zn) (λx=>x.1<=n/\aX x.2=true/\q=rmP u (n-x.1) x.2) (λx=> [(41,.int .i64 (x.1:Int)),(9,.lst 6 false (aJ x.2))]) (λx=> []) (λx=>n-x.1) (0,c.zo) ⟨Nat.zero_le _,hz,B.symm⟩ ?_ ?_
 ·exact Vr [some 0]
 rintro ⟨i,l⟩ ⟨Y,G,z⟩;dsimp only at Y G z⊢;have W:(aJ l).length=l.length:=aE _;have E:=bE7 l false ((l.length:Int)-1) u (jR G);have D:aX (cV (l.map iX) l ((l.length:Int)-1) u).1=true:=aD4 (iS.ex l) G
 by_cases b:i<n
 ·obtain⟨m,R⟩:∃m,n-i=m+1:=⟨n-i-1,by omega⟩;have H:n- (i+1)=m:=by omega
  rw [R,rmP] at z;generalize cV (l.map iX) l ((l.length:Int)-1) u=Q at *;obtain⟨l',f,e⟩:=Q;dsimp only at z D E;have Z:=(jR G).len
  by_cases J:e=0
  ·subst J;have z:q=rmP u m l':=z;refine Wy ?_;refine Le (i+1,l') (hI:=⟨b,D,by rw [H];exact z⟩) (hv:=?_);exact Vr [some 0]
  ·rw [zbn.2 J,zcf] at z;subst z;have aa:(e != 0)=true:=by simpa using J
   refine Wy ?_;exact Lz
 ·obtain rfl:i=n:=by omega
  rw [Nat.sub_self] at z;have z:q=true:=z;subst z;exact tT
end Go.Proofs.YtmhapcbjjpadnaaGreat
