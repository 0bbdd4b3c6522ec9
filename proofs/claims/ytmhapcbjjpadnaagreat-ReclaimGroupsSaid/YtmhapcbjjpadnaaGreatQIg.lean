/- Caches. -/
import Derived.Test.YtmhapcbjjpadnaaGreatQAg
import Derived.Test.YtmhapcbjjpadnaaGreatG2g
import Derived.Test.YtmhapcbjjpadnaaGreatK8g
set_option linter.all false
set_option maxHeartbeats 8000000
set_option maxRecDepth 40000
open Int renaming toNat_natCast→zA
namespace Go.Proofs.YtmhapcbjjpadnaaGreat
open Go Go.Sk Go.RowKit
def rmP(u:Bool):Nat->List Zn->Bool
 |0,_=>true
 |n+1,l=>bif (cS (l.map jD) l ((l.length:Int)-1) u).2.2==0 then rmP u n (cS (l.map jD) l ((l.length:Int)-1) u).1 else false
def bHC(c:Dc)(t n:Int):Bool:=decide ((0<=t/\t< (c.gr.length:Int))/\0<=n/\n<=(c.gr.getD t.toNat g0).lim- (c.gr.getD t.toNat g0).chg)
def bAG(c:Dc)(t n:Int)(u:Bool):Bool:=bif bHC c t n then rmP u n.toNat c.zo else false
theorem bIH {l:List Gr} (h:mV l=true) {i:Nat} (hi:i<l.length):(1<=(l.getD i g0).lim/\(l.getD i g0).lim<=64)/\0<=(l.getD i g0).chg/\(l.getD i g0).chg<=64:=by have e:=iM (Bool.and_eq_true _ _▸h).1 hi;unfold nD aI6 at e;simp only [Bool.or_eq_false_iff,zdn] at e;omega
noncomputable def R25:Rsv Tryz.prog Tryz.f25 [] 4:=⟨_,_,rfl,rfl⟩
theorem bOA(c:Dc)(h:Ok c)(t n:Int)(u:Bool):aM Tryz.prog 25 [] [.agg c.c,.int .i64 t,.int .i64 n,.bool u] (.bool (bAG c t n u)) []:=by
 have F:=bJX c h t;generalize B:bAG c t n u=q;unfold bAG bHC at B
 by_cases a:0<=t/\t< (c.gr.length:Int)
 rotate_left
 ·rw [zdf a] at F;rw [zdf (λx=>a x.1),zcf] at B;subst B
  have C:(∃g:Gr,(aR c.gr).getD t.toNat []=g.c)\/(aR c.gr).getD t.toNat []=[]:=by
   by_cases x:t.toNat<c.gr.length
   ·have :=dV c.gr t.toNat x;rw [zA] at this;exact .inl ⟨_,this⟩
   ·right;rw [List.getD_eq_getElem?_getD,List.getElem?_eq_none (by simp [aR];omega)];rfl
  rcases C with ⟨g,hg⟩|hg
  ·refine fnZ R25 Tryz.func25 ?_;exact pV
  ·refine fnZ R25 Tryz.func25 ?_;exact pV
 rw [zdt a] at F;obtain⟨t,rfl⟩:∃j:Nat,t=(j:Int):=⟨t.toNat,by omega⟩;have N:t<c.gr.length:=by omega
 rw [zA] at B;have J:=dV c.gr t N;rw [zA] at J;have R:(aR c.gr).length=c.gr.length:=by simp [aR]
 obtain⟨l1,l2⟩:=bIH h.gr N
 by_cases K:0<=n
 rotate_left
 ·rw [zdf (λx=>K x.2.1),zcf] at B;subst B;refine fnZ R25 Tryz.func25 ?_;exact pV
 by_cases M:n<=(c.gr.getD t g0).lim- (c.gr.getD t g0).chg
 rotate_left
 ·rw [zdf (λx=>M x.2.2),zcf] at B;subst B;generalize c.gr.getD t g0=g at *;refine fnZ R25 Tryz.func25 ?_;exact pV
 rw [zdt ⟨a,K,M⟩,zct] at B;obtain⟨n,rfl⟩:∃j:Nat,n=(j:Int):=⟨n.toNat,by omega⟩;rw [zA] at B;generalize c.gr.getD t g0=g at *;have hz:=h.zone;refine fnZ R25 Tryz.func25 ?_;refine Wy ?_;refine Lp (α:=Nat×List Zn) (λx=>x.1<=n/\aZ x.2=true/\q=rmP u (n-x.1) x.2) (λx=> [(41,.int .i64 (x.1:Int)),(9,.lst 6 false (aJ x.2))]) (λx=> []) (λx=>n-x.1) (0,c.zo) ⟨Nat.zero_le _,hz,B.symm⟩ ?_ ?_
 ·exact Vr [some 0]
 rintro ⟨i,l⟩ ⟨W,hc,z⟩;dsimp only at W hc z⊢;have T:(aJ l).length=l.length:=aF _;have E:=bG2 l false ((l.length:Int)-1) u (jY hc);have D:aZ (cS (l.map jD) l ((l.length:Int)-1) u).1=true:=aE7 (iW.ex l) hc
 by_cases b:i<n
 ·obtain⟨m,O⟩:∃m,n-i=m+1:=⟨n-i-1,by omega⟩;have G:n- (i+1)=m:=by omega
  rw [O,rmP] at z;generalize cS (l.map jD) l ((l.length:Int)-1) u=Q at *;obtain⟨l',f,e⟩:=Q;dsimp only at z D E;have Y:=(jY hc).len
  by_cases H:e=0
  ·subst H;have z:q=rmP u m l':=z;refine Wy ?_;refine Le (i+1,l') (hI:=⟨b,D,by rw [G];exact z⟩) (hv:=?_);exact Vr [some 0]
  ·rw [zbn.2 H,zcf] at z;subst z;have Z:(e != 0)=true:=by simpa using H
   refine Wy ?_;exact Lz
 ·obtain rfl:i=n:=by omega
  rw [Nat.sub_self] at z;have z:q=true:=z;subst z;exact pV
end Go.Proofs.YtmhapcbjjpadnaaGreat
