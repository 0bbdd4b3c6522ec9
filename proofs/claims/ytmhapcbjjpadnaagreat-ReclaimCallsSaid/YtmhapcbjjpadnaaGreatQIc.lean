/- Caches. -/
import Derived.Test.YtmhapcbjjpadnaaGreatQAc
import Derived.Test.YtmhapcbjjpadnaaGreatG2c
import Derived.Test.YtmhapcbjjpadnaaGreatK8c
set_option linter.all false
set_option maxHeartbeats 8000000
set_option maxRecDepth 40000
open Int renaming toNat_natCast→zA
open List renaming getD_eq_getElem?_getD→zC,getElem?_eq_none→zD
namespace Go.Proofs.YtmhapcbjjpadnaaGreat
open Go Go.Sk Go.RowKit
def rmP(u:Bool):Nat->List Zn->Bool
 |0,_=>true
 |n+1,l=>bif (bZ (l.map gM) l ((l.length:Int)-1) u).2.2==0 then rmP u n (bZ (l.map gM) l ((l.length:Int)-1) u).1 else false
def rmG(u:Bool):Nat->List Zn->Bool
 |0,_=>true
 |n+1,l=>bif (bZ l l ((l.length:Int)-1) u).2.2==0 then rmG u n (bZ l l ((l.length:Int)-1) u).1 else false
theorem aNY(l:List Zn)(i:Nat):(l.map gM).getD i gK=gM (l.getD i gK):=by rw [zC,zC,List.getElem?_map];cases l[i]? <;> rfl
theorem aKK(l:List Zn)(u:Bool):∀k,dW (l.map gM) u k=dW l u k
 |0=>rfl
 |k+1=>by rw [dW,dW,aKK l u k,aNY];rfl
theorem aKL(base l:List Zn)(p:Int)(u:Bool):bZ base (l.map gM) p u=bZ base l p u:=by
 unfold bZ;rw [(fB.ex l).check,List.length_map,aKK]
 cases dW l u (p+1).toNat with
 |none=>rfl
 |some i=>simp only [aNY];rfl
theorem aX4 {a b:List Zn} (h:fB a b)(p:Int)(u:Bool)(base:List Zn):bZ base a p u=bZ base b p u:=by rw [<-aKL base a,<-aKL base b,show a.map gM=b.map gM from h]
theorem bB2(u:Bool):∀n {a b:List Zn},fB a b->rmP u n a=rmG u n b
 |0,_,_,_=>rfl
 |n+1,a,b,h=>by have e:a.length=b.length:=h.len;obtain⟨f,j⟩:=aX3 (l:=b) (p:=(b.length:Int)-1) (u:=u) ((fB.ex a).trans h);rw [rmP,rmG,e,aX4 h,j,bB2 u n f]
def aU5(c:Dc)(t n:Int):Bool:=decide ((0<=t/\t< (c.gr.length:Int))/\0<=n/\n<=(c.gr.getD t.toNat g0).lim- (c.gr.getD t.toNat g0).chg)
def aRP(c:Dc)(t n:Int)(u:Bool):Bool:=bif aU5 c t n then rmP u n.toNat c.zo else false
def aWN(c:Dc)(t n:Int)(u:Bool):Bool:=bif aU5 c t n then rmG u n.toNat c.zo else false
theorem aYS {l:List Gr} (h:mY l=true) {i:Nat} (hi:i<l.length):(1<=(l.getD i g0).lim/\(l.getD i g0).lim<=64)/\0<=(l.getD i g0).chg/\(l.getD i g0).chg<=64:=by have e:=iV (Bool.and_eq_true _ _▸h).1 hi;unfold nS aIR at e;simp only [Bool.or_eq_false_iff,zdn] at e;omega
noncomputable def R25:Rsv Tryz.prog Tryz.f25 [] 4:=⟨_,_,rfl,rfl⟩
theorem bKC(c:Dc)(h:Ok c)(t n:Int)(u:Bool):aM Tryz.prog 25 [] [.agg c.c,.int .i64 t,.int .i64 n,.bool u] (.bool (aRP c t n u)) []:=by
 have F:=bKO c h t;generalize B:aRP c t n u=q;unfold aRP aU5 at B
 by_cases a:0<=t/\t< (c.gr.length:Int)
 rotate_left
 ·rw [zdf a] at F;rw [zdf (λx=>a x.1),zcf] at B;subst B
  have C:(∃g:Gr,(aQ c.gr).getD t.toNat []=g.c)\/(aQ c.gr).getD t.toNat []=[]:=by
   by_cases x:t.toNat<c.gr.length
   ·have :=cY c.gr t.toNat x;rw [zA] at this;exact .inl ⟨_,this⟩
   ·right;rw [zC,zD (by simp [aQ];omega)];rfl
  rcases C with ⟨g,hg⟩|hg
  ·refine fnZ R25 Tryz.func25 ?_;exact kK
  ·refine fnZ R25 Tryz.func25 ?_;exact kK
 rw [zdt a] at F;obtain⟨t,rfl⟩:∃j:Nat,t=(j:Int):=⟨t.toNat,by omega⟩;have O:t<c.gr.length:=by omega
 rw [zA] at B;have K:=cY c.gr t O;rw [zA] at K;have T:(aQ c.gr).length=c.gr.length:=by simp [aQ]
 obtain⟨l1,l2⟩:=aYS h.gr O
 by_cases M:0<=n
 rotate_left
 ·rw [zdf (λx=>M x.2.1),zcf] at B;subst B;refine fnZ R25 Tryz.func25 ?_;exact kK
 by_cases N:n<=(c.gr.getD t g0).lim- (c.gr.getD t g0).chg
 rotate_left
 ·rw [zdf (λx=>N x.2.2),zcf] at B;subst B;generalize c.gr.getD t g0=g at *;refine fnZ R25 Tryz.func25 ?_;exact kK
 rw [zdt ⟨a,M,N⟩,zct] at B;obtain⟨n,rfl⟩:∃j:Nat,n=(j:Int):=⟨n.toNat,by omega⟩;rw [zA] at B;generalize c.gr.getD t g0=g at *;have hz:=h.zone;refine fnZ R25 Tryz.func25 ?_;refine Wy ?_;refine Lp (α:=Nat×List Zn) (λx=>x.1<=n/\bB x.2=true/\q=rmP u (n-x.1) x.2) (λx=> [(41,.int .i64 (x.1:Int)),(9,.lst 6 false (aK x.2))]) (λx=> []) (λx=>n-x.1) (0,c.zo) ⟨Nat.zero_le _,hz,B.symm⟩ ?_ ?_
 ·exact Vr [some 0]
 rintro ⟨i,l⟩ ⟨Y,G,z⟩;dsimp only at Y G z⊢;have W:(aK l).length=l.length:=aF _;have E:=bGN l false ((l.length:Int)-1) u (gO G);have D:bB (bZ (l.map gM) l ((l.length:Int)-1) u).1=true:=uX (fB.ex l) G
 by_cases b:i<n
 ·obtain⟨m,R⟩:∃m,n-i=m+1:=⟨n-i-1,by omega⟩;have H:n- (i+1)=m:=by omega
  rw [R,rmP] at z;generalize bZ (l.map gM) l ((l.length:Int)-1) u=Q at *;obtain⟨l',f,e⟩:=Q;dsimp only at z D E;have Z:=(gO G).len
  by_cases J:e=0
  ·subst J;have z:q=rmP u m l':=z;refine Wy ?_;refine Le (i+1,l') (hI:=⟨b,D,by rw [H];exact z⟩) (hv:=?_);exact Vr [some 0]
  ·rw [zbn.2 J,zcf] at z;subst z;have aa:(e != 0)=true:=by simpa using J
   refine Wy ?_;exact Lz
 ·obtain rfl:i=n:=by omega
  rw [Nat.sub_self] at z;have z:q=true:=z;subst z;exact kK
noncomputable def R26:Rsv Tryz.prog Tryz.f26 [] 4:=⟨_,_,rfl,rfl⟩
theorem bT0(c:Dc)(h:Ok c)(t n:Int)(u:Bool):aM Tryz.prog 26 [] [.agg c.c,.int .i64 t,.int .i64 n,.bool u] (.bool (aWN c t n u)) []:=by
 generalize C:aWN c t n u=q;unfold aWN aU5 at C
 by_cases a:0<=t/\t< (c.gr.length:Int)
 rotate_left
 ·rw [zdf (λx=>a x.1),zcf] at C;subst C;have aa:=h.ng
  have B:(∃g:Gr,(aQ c.gr).getD t.toNat []=g.c)\/(aQ c.gr).getD t.toNat []=[]:=by
   by_cases x:t.toNat<c.gr.length
   ·have :=cY c.gr t.toNat x;rw [zA] at this;exact .inl ⟨_,this⟩
   ·right;rw [zC,zD (by simp [aQ];omega)];rfl
  have H:(aQ c.gr).length=c.gr.length:=by simp [aQ]
  by_cases a0:t<0
  ·rcases B with ⟨g,hg⟩|hg
   ·refine fnZ R26 Tryz.func26 ?_;exact kK
   ·refine fnZ R26 Tryz.func26 ?_;exact kK
  ·have a1:(c.gr.length:Int)<=t:=by omega
   rcases B with ⟨g,hg⟩|hg
   ·refine fnZ R26 Tryz.func26 ?_;exact kK
   ·refine fnZ R26 Tryz.func26 ?_;exact kK
 obtain⟨t,rfl⟩:∃j:Nat,t=(j:Int):=⟨t.toNat,by omega⟩;have O:t<c.gr.length:=by omega
 rw [zA] at C;have K:=cY c.gr t O;rw [zA] at K;have H:(aQ c.gr).length=c.gr.length:=by simp [aQ]
 obtain⟨l1,l2⟩:=aYS h.gr O
 by_cases M:0<=n
 rotate_left
 ·rw [zdf (λx=>M x.2.1),zcf] at C;subst C;refine fnZ R26 Tryz.func26 ?_;exact kK
 by_cases N:n<=(c.gr.getD t g0).lim- (c.gr.getD t g0).chg
 rotate_left
 ·rw [zdf (λx=>N x.2.2),zcf] at C;subst C;generalize c.gr.getD t g0=g at *;refine fnZ R26 Tryz.func26 ?_;exact kK
 rw [zdt ⟨a,M,N⟩,zct] at C;obtain⟨n,rfl⟩:∃j:Nat,n=(j:Int):=⟨n.toNat,by omega⟩;rw [zA] at C;generalize c.gr.getD t g0=g at *;have hz:=h.zone;refine fnZ R26 Tryz.func26 ?_;refine Wy ?_;refine Lp (α:=Nat×List Zn) (λx=>x.1<=n/\bB x.2=true/\q=rmG u (n-x.1) x.2) (λx=> [(10,.int .i64 (x.1:Int)),(9,.lst 6 false (aK x.2))]) (λx=> []) (λx=>n-x.1) (0,c.zo) ⟨Nat.zero_le _,hz,C.symm⟩ ?_ ?_
 ·exact Vr [some 0]
 rintro ⟨i,l⟩ ⟨W,F,z⟩;dsimp only at W F z⊢;have T:(aK l).length=l.length:=aF _;have E:=bGO l false ((l.length:Int)-1) u (gO F);have D:bB (bZ l l ((l.length:Int)-1) u).1=true:=uX (fB.refl l) F
 by_cases b:i<n
 ·obtain⟨m,R⟩:∃m,n-i=m+1:=⟨n-i-1,by omega⟩;have G:n- (i+1)=m:=by omega
  rw [R,rmG] at z;generalize bZ l l ((l.length:Int)-1) u=Q at *;obtain⟨l',f,e⟩:=Q;dsimp only at z D E;have Y:=(gO F).len
  by_cases J:e=0
  ·subst J;have z:q=rmG u m l':=z;refine Wy ?_;refine Le (i+1,l') (hI:=⟨b,D,by rw [G];exact z⟩) (hv:=?_);exact Vr [some 0]
  ·rw [zbn.2 J,zcf] at z;subst z;have Z:(e != 0)=true:=by simpa using J
   refine Wy ?_;exact Lz
 ·obtain rfl:i=n:=by omega
  rw [Nat.sub_self] at z;have z:q=true:=z;subst z;exact kK
theorem bEN(c:Dc)(t n:Int)(u:Bool):aRP c t n u=aWN c t n u:=by unfold aRP aWN;rw [bB2 u n.toNat (fB.refl c.zo)]
end Go.Proofs.YtmhapcbjjpadnaaGreat
