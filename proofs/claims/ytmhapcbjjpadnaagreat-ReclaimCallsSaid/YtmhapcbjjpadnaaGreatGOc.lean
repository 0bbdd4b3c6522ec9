/- Caches. -/
import Derived.Test.YtmhapcbjjpadnaaGreatGNc
import Derived.Test.YtmhapcbjjpadnaaGreatG9c
import Derived.Test.YtmhapcbjjpadnaaGreatGBc
import Derived.Test.YtmhapcbjjpadnaaGreatG2c
set_option linter.all false
set_option maxHeartbeats 8000000
set_option maxRecDepth 40000
open List renaming getElem_mem→zA
open Nat renaming zero_le→zC
namespace Go.Proofs.YtmhapcbjjpadnaaGreat
open Go Go.Sk Go.RowKit
structure vC(a b:Dc):Prop where
 fl:a.fl=b.fl
 fr:a.fr=b.fr
 zo:fB a.zo b.zo
 gr:a.gr=b.gr
 ls:a.ls=b.ls
 ck:a.ck=b.ck
 pt:a.pt=b.pt
theorem aFU(l:List Zn):fB (l.map noZ) l:=by show(l.map noZ).map gM=l.map gM;rw [List.map_map];rfl
theorem vC.x(c:Dc):vC c.x c:=⟨rfl,rfl,aFU _,rfl,rfl,rfl,rfl⟩
theorem aYR(l:List Zn)(h:bB l=true)(f:Int):fB (eD ((l.map noZ).map gM) (l.map noZ) f).1 (eD l l f).1:=by
 have K:=aFU l;have M:bB (l.map noZ)=true:=by rw [K.check];exact h
 have k1:=vI (base:=(l.map noZ).map gM) (f:=f) M;have k2:=vI (base:=l) (f:=f) h;have J:fB ((l.map noZ).map gM) l:=(fB.ex _).trans K;have hgt:∀i (z:i< (l.map noZ).length),(l.map noZ)[i]=noZ (l[i]'(by simpa using z)):=λi z=>List.getElem_map ..;have H:=((eR l).1 h).1;generalize eD ((l.map noZ).map gM) (l.map noZ) f=q1 at *;generalize eD l l f=q2 at *
 have D:∀i j (z:i<l.length) (E:j<l.length),l[i].first<=f/\f<l[i].first+l[i].size->l[j].first<=f/\f<l[j].first+l[j].size->i=j:=λi j z E a b=>by
  rcases Nat.lt_trichotomy i j with e |e |e
  ·have :=H.sep i j z E e;omega
  ·exact e
  ·have :=H.sep j i E z e;omega
 cases k1 with
 |range a=>
  cases k2 with
  |range _=>exact J
  |free i z m G=>exact absurd m (a (noZ l[i]) (List.mem_map.2 ⟨l[i],zA z,rfl⟩))
  |ok i z m G=>exact absurd m (a (noZ l[i]) (List.mem_map.2 ⟨l[i],zA z,rfl⟩))
 |free i z m G=>
  have B:i<l.length:=by simpa using z
  rw [hgt i z] at m G;have m:l[i].first<=f/\f<l[i].first+l[i].size:=m
  cases k2 with
  |range a=>exact absurd m (a _ (zA B))
  |free _ _ _ _=>exact J
  |ok j E C F=> have :=D i j B E m C;subst this;exact absurd G F
 |ok i z m G=>
  have B:i<l.length:=by simpa using z
  rw [hgt i z] at m G⊢;have m:l[i].first<=f/\f<l[i].first+l[i].size:=m
  cases k2 with
  |range a=>exact absurd m (a _ (zA B))
  |free j E C F=> have :=D i j B E m C;subst this;exact absurd F G
  |ok j E C F=> have :=D i j B E m C;subst this;exact J.set i rfl
theorem aYH {c:Dc} (h:Ok c)(n:Int):vC (evP c n).1 (evG c n).1/\(evP c n).2=(evG c n).2:=by
 unfold evP evG;rcases cE c n with ⟨e,j⟩| ⟨m,u,e,rfl,f,h2⟩
 ·rw [e];exact⟨.x c,rfl⟩
 ·rw [e];dsimp only
  cases(iJ u&&decide (u.p.d=0)) with
  |false=>exact⟨.x c,rfl⟩
  |true=>exact⟨⟨rfl,rfl,aYR c.zo h.zone _,rfl,rfl,rfl,rfl⟩,rfl⟩
theorem aOS(a b:Dc)(h:Ok b)(hs:vC a b):aM Tryz.prog 18 [] [.agg a.c,.agg b.c] (.bool true) []:=by
 obtain⟨C,m,za,gr,e,O,pt⟩:=a;obtain⟨ab,ac,zb,ad,ag,aa,ah⟩:=b;obtain⟨e1,Q,D,R,T,W,Y⟩:=hs;dsimp only at e1 Q D R T W Y;subst e1 Q R T W Y;have h3:=h.nf;have h4:=h.nr;have h5:=h.ng;have h6:=h.sm.ls;have h7:=h.sm.ck;have Z:=h.ptl;dsimp only at h3 h4 h5 h6 h7 Z;have J:=h.smZ;have H:fL za:=gO (by rw [D.check];exact h.zone);have K:=bTK za zb false false H J;rw [aWX D] at K;have ae:=bTL gr false false (by omega)
 have M:=bDT O O false false (by omega) (by omega);rw [zdt rfl] at M;have af:=bTM pt false false Z;refine aE (ob0:= []) [] Tryz.func18 rfl rfl (aG0 bRA rfl) rfl ?_;refine Wy ?_;refine Lp (λi:Nat=>i<=C.length) (λi=> [(5,.int .i64 (i:Int))]) (λi=> []) (λi=>C.length-i) 0 (zC _) ?_ ?_
 ·exact Vr [_,_]
 intro i hi;refine Wy ?_;refine gE (λb=>?_) (λb=>?_)
 ·have b:i<C.length:=by omega
  have kf:=h.file i b;have hg:=iD C i b;have B:=bTN kf.E;obtain⟨k0,k1,k2,k3,z,f⟩:=Df.cells kf.E;dsimp only at z f B;rw [z] at hg;rw [f] at B;refine Wy ?_;refine Le (i+1) (hv:=?_);exact Vr [_,_]
 clear b;refine Wy ?_;refine Lp (λi:Nat=>i<=m.length) (λi=> [(8,.int .i64 (i:Int))]) (λi=> []) (λi=>m.length-i) 0 (zC _) ?_ ?_
 ·exact Vr [_,_]
 intro j hj;refine Wy ?_;refine gE (λb=>?_) (λb=>?_)
 ·have b:j<m.length:=by omega
  have hg:=cC m j b
  cases hu:m.getD j none with
  |none=> rw [hu] at hg;have hg:(aO m).getD j []=fre.c:=hg;refine Wy ?_;refine Le (j+1) (hv:=?_);exact Vr [_,_]
  |some u=>
   rw [hu] at hg;have hg:(aO m).getD j []=u.c:=hg;refine Wy ?_;refine aC (λc2=>?_) (λc2=>?_)
   ·simp [aRW] at c2
   refine Wy ?_;refine Le (j+1) (hv:=?_);exact Vr [_,_]
 clear b;refine Wy ?_;refine Lp (λi:Nat=>i<=e.length) (λi=> [(9,.int .i64 (i:Int))]) (λi=> []) (λi=>e.length-i) 0 (zC _) ?_ ?_
 ·exact Vr [_,_]
 intro k hk;refine Wy ?_;refine gE (λb=>?_) (λb=>?_)
 ·have b:k<e.length:=by omega
  have hg:=eC e k b;have G:=h.smL k;dsimp only at G;have N:=bTO (e.getD k l0) (e.getD k l0) G G;have F:aUC (e.getD k l0) (e.getD k l0)=true:=by simp [aUC]
  rw [F] at N;generalize e.getD k l0=l at *;refine Wy ?_;refine Le (k+1) (hv:=?_);exact Vr [_,_]
 exact kK
end Go.Proofs.YtmhapcbjjpadnaaGreat
