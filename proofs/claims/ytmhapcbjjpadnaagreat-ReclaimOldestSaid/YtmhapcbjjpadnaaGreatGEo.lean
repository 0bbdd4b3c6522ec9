/- Caches. -/
import Derived.Test.YtmhapcbjjpadnaaGreatGDo
import Derived.Test.YtmhapcbjjpadnaaGreatG6o
import Derived.Test.YtmhapcbjjpadnaaGreatGCo
import Derived.Test.YtmhapcbjjpadnaaGreatG4o
import Derived.Test.YtmhapcbjjpadnaaGreatK8o
set_option linter.all false
set_option maxHeartbeats 2000000
set_option maxRecDepth 40000
open Bool renaming cond_false_right→zE,not_true→zF,and_eq_true→zG,cond_true_left→zK,not_eq_false'→zL,not_eq_true'→zM,not_not→zT
open Int renaming toNat_natCast→zC
open List renaming getD_eq_getElem?_getD→zA,length_set→zD,mem_append→zH,getElem_mem→zJ,cons_append→zO,getElem?_eq_none→zP,getElem_of_mem→zQ,mem_cons→zR
open Nat renaming le_of_not_lt→zI,zero_le→zN,add_sub_cancel→zS
namespace Go.Proofs.YtmhapcbjjpadnaaGreat
open Go Go.Sk Go.RowKit
theorem fY(L:List Ls)(k:Nat)(h:k<L.length):(bG L).getD k []=(L.getD k l0).c:=by have :=aPE L k h;rwa [zC] at this
def Dc.acc(c:Dc)(n:Nat)(t:Nat):Dc:=⟨c.fl,c.fr,c.zo,c.gr,c.ls.set t (nM (c.ls.getD t l0) ((n+1:Nat):Int)).1,c.ck,c.pt⟩
theorem bLL(c:Dc)(n:Nat)(u:Us)(D:SmD c)(G:n<c.fr.length)(M:c.fr.getD n none=some u)(H:u.ten<c.ls.length)(O:eD (c.ls.getD u.ten l0)):
 aN Tryz.prog 127 [] [.agg c.c,.int .i64 ((n+1:Nat):Int)] (.agg (c.acc n u.ten).c) []:=by
 have J:=aP1 c D;have f:=bPZ (c.ls.getD u.ten l0) ((n+1:Nat):Int) O;unfold Dc.acc;obtain⟨W,C,zo,gr,j,R,Y⟩:=c;have E:=D.fr;have F:=D.ls;dsimp only at G M H E F f⊢;have m:=gR C n G;rw [M] at m;have m:(aY C).getD n []=u.c:=m;obtain⟨K,N,p,e,holds,Z,wr⟩:=u;dsimp only at H f;have B:=fY j e H;have z:∀x:Ls,(bG j).set e (aS 3 (j.getD e l0).c 0 x.c)=bG (j.set e x):=λx=>jZ j e x;generalize j.getD e l0=l at f B z
 generalize(nM l ((n+1:Nat):Int)).2=T at f;generalize(nM l ((n+1:Nat):Int)).1=Q at f⊢;refine cG Tryz.func127 ?_;refine Wk ?_;refine .inr ⟨λ_=>⟨[],_,_,_,J,trivial,rfl,rfl,rfl,?_⟩,(by intro h;cases h)⟩
 refine Wk ?_;rw [aO (n:=((n+1:Nat):Int)-1) (by omega) (by omega),show((n+1:Nat):Int)-1=(n:Int) by omega,show decide (0<=(n:Int)/\(n:Int)< (C.length:Int))=true from zdt ⟨by omega,by omega⟩];refine Wk ?_;rw [show 0+(n:Int).toNat=n by omega,show decide (n< (aY C).length)=true from zdt (by rw [dJ];exact G),m];refine Wk ?_;refine⟨λ_=>⟨by show(0:Int)<=(e:Int);omega,by show(e:Int)< (j.length:Int);omega⟩,?_⟩;refine Wk ?_
 refine⟨λ_=>by show 0+(e:Int).toNat< (bG j).length;rw [bW];omega,by omega,?_⟩;rw [show 0+(e:Int).toNat=e by omega,B];refine cS f ?_;refine⟨λ_=>⟨by show(0:Int)<=(e:Int);omega,by show(e:Int)< (j.length:Int);omega⟩,?_⟩;refine Wk ?_;rw [show 0+(e:Int).toNat=e by omega,B];refine⟨by show e< (bG j).length;rw [bW];omega,by omega,?_⟩;refine Wk ?_;refine⟨[],trivial,rfl,trivial,rfl,?_⟩
 repeat' (first |exact trivial |rfl |exact .inl rfl |exact .inr rfl |exact id |exact zbc |apply And.intro)
 all_goals first
  |exact cM rfl (cO _)
  |exact cM rfl (dJ _)
  |exact cM rfl (aK _)
  |exact cM rfl (aA _)
  | (rw [cO];omega)
  | (rw [dJ];omega)
  | (rw [aK];omega)
  | (rw [aA];omega)
  |exact cM (z Q) (by rw [zD];exact bW j)
  | (rw [zD,bW];show 0+j.length<=j.length;omega)
def nP(c:Dc)(n:Int):Bool:=bif (bif decide (1<=n) then decide (n<=(c.fr.length:Int)) else false) then(c.fr.getD (n-1).toNat none).isSome else false
def iQ(u:Us):Bool:=bif (bif (u.holds:Int)==0 then(u.rd:Int)==0 else false) then(u.wr:Int)==0 else false
theorem bPL(u:Us):aN Tryz.prog 28 [] [.agg u.c] (.bool (iQ u)) []:=by obtain⟨e,f,p,j,holds,m,z⟩:=u;refine cG Tryz.func28 ?_;refine Wk ?_;exact Lf
theorem bEB(u:Us):aN Tryz.prog 151 [] [.agg u.c] (.bool (iQ u)) []:=by obtain⟨e,f,p,j,holds,m,z⟩:=u;refine cG Tryz.func151 ?_;refine Wk ?_;exact Lf
theorem aUE(L:List (Option Us))(k:Nat):(aY L).getD k []=[]\/∃o,(aY L).getD k []=frC o:=by
 by_cases h:k<L.length
 ·exact .inr ⟨_,gR L k h⟩
 ·exact .inl (by simp [aY,zA,zP (zI h)])
def findF(E:dA)(i:Int):Int×Bool:=bif decide (aC9 E i<=0) then(0,false) else(aC9 E i,true)
theorem aXQ(c:Dc)(f:Nat)(i:Int)(N:SmD c)(F:f<c.fl.length)(D:bK (c.fl.getD f bC).E)(J:Sup (c.fl.getD f bC).E):
 aN Tryz.prog 33 [] [.agg c.c,.int .i64 (f:Int),.int .i64 i] (.tup [.int .i64 (findF (c.fl.getD f bC).E i).1,.bool (findF (c.fl.getD f bC).E i).2]) []:=by
 have B:=aCQ c f F;have j:=aX7 D J i;obtain⟨C,M,R,gr,O,K,Q⟩:=c;dsimp only at F D J j⊢;have z:=gQ C f F;generalize C.getD f bC=x at *;obtain⟨k0,k1,k2,k3,e⟩:=cB D;have G:x.c=[.int .i64 x.dev,.int .i64 x.slot,.int .i64 (hgt x.E:Int),.lst k0 k1 k2,.int .i64 k3,.int .i64 (nS x.E 0 (4^hgt x.E):Nat),.int .i64 (x.size:Int),.int .i64 (x.blocks:Int),.int .i64 x.ec,.int .i64 x.ee,.int .i64 0,.int .i64 0,.int .i64 0,.int .i64 0,.int .i64 0]:=by unfold Df.c;rw [e];rfl
 rw [G] at z;rw [e] at j;generalize m:findF x.E i=q;unfold findF at m;generalize aC9 x.E i=v at j m;refine cG Tryz.func33 ?_;refine cS B ?_;refine aG (⟨rfl,by omega,by show(f:Int)< ((bU C).length:Int);rw [cO];omega⟩) ?_;rw [zC,z];refine cS j ?_;refine aC (λH=>?_) (λH=>?_)<;> try simp only [zK,zE,zM,zL,zT] at H
 ·rw [H,zct] at m;subst m;refine Wk ?_
  try subst m
  exact Lf
 rw [H,zcf] at m;subst m;refine Wk ?_
 try subst m
 exact Lf
theorem bBH(c:Dc)(n:Int)(K:SmD c):aN Tryz.prog 96 [] [.agg c.c,.int .i64 n] (.bool (nP c n)) []:=by
 obtain⟨D,f,J,gr,F,C,H⟩:=c;have B:=K.fr;dsimp only at B;generalize e:nP ⟨D,f,J,gr,F,C,H⟩ n=q;unfold nP at e;dsimp only at e;show aN Tryz.prog 96 [] [.agg [.lst 15 false (bU D),.lst 9 false (aY f),.lst 6 false (aJ J),.lst 3 false (aR gr),.lst 3 false (bG F),.lst 1 false (aB C),.lst 5 false (aU H)],.int .i64 n] (.bool q) [];refine cG Tryz.func96 ?_;refine Wk ?_;rw [dJ]
 cases j:(bif decide (1<=n) then decide (n<=(f.length:Int)) else false) with
 |false=>
  rw [j,zcf] at e;subst e;refine Wk ?_;rcases aUE f (IntKind.i64.wrap (n-1)).toNat with h2 | ⟨o,h2⟩
  ·rw [h2];refine Wk ?_
   try subst e
   exact Lf
  ·rw [h2]
   cases o with
   |none=>
    refine Wk ?_
    try subst e
    exact Lf
   |some u=>
    refine Wk ?_
    try subst e
    exact Lf
 |true=>
  rw [j,zct] at e
  have N:1<=n/\n<=(f.length:Int):=by
   by_cases a:1<=n
   ·rw [zdt a,zct,decide_eq_true_eq] at j;exact⟨a,j⟩
   ·rw [zdf a] at j;cases j
  obtain⟨m,rfl⟩:∃m:Nat,n=((m+1:Nat):Int):=⟨(n-1).toNat,by omega⟩;rw [show(((m+1:Nat):Int)-1).toNat=m by omega] at e;have hg:=gR f m (by omega);rw [aO (n:=((m+1:Nat):Int)-1) (by omega) (by omega),show((m+1:Nat):Int)-1=(m:Int) by omega];refine aG ⟨rfl,by omega,by omega⟩ ?_;rw [zC,hg]
  cases E:f.getD m none with
  |none=>
   rw [E] at e;subst e;refine Wk ?_
   try subst e
   exact Lf
  |some u=>
   rw [E] at e;subst e;obtain⟨z,G,p,M,holds,O,Q⟩:=u;refine Wk ?_;rw [show decide ((0:Int)<=(z:Int))=true from zdt (by omega)]
   try subst e
   exact Lf
def eH(p:Pt):Bool:=bif (bif (bif (bif (bif decide (0<=p.proc) then decide (p.proc<8) else false) then decide (0<=p.page) else false) then decide (p.page<64) else false) then decide (1<=p.frame) else false) then decide (p.frame<=64) else false
def fT(a b:Pt):Bool:=bif decide (a.proc<b.proc) then true else bif a.proc==b.proc then decide (a.page<b.page) else false
theorem bMQ(p:Pt):aN Tryz.prog 273 [] [.agg p.c] (.bool (eH p)) []:=by obtain⟨j,f,e,z,m⟩:=p;refine cG Tryz.func273 ?_;refine Wk ?_;exact Lf
theorem bMR(a b:Pt):aN Tryz.prog 274 [] [.agg a.c,.agg b.c] (.bool (fT a b)) []:=by obtain⟨C,B,f,F,D⟩:=a;obtain⟨m,j,e,E,z⟩:=b;refine cG Tryz.func274 ?_;refine Wk ?_;exact Lf
def vE(l:List Pt)(j:Nat):Bool:=bif !eH (l.getD j p0) then true else bif decide (0< (j:Int)) then !fT (l.getD (j-1) p0) (l.getD j p0) else false
def lK(l:List Pt):Bool:=bA (vE l) l.length
theorem kC(L:List Pt)(k:Nat)(h:k<L.length):(aU L).getD k []=(L.getD k p0).c:=by have :=vT L k h;rwa [zC] at this
theorem bM4(l:List Pt)(t:Bool)(G:l.length<=100000):aN Tryz.prog 202 [] [.lst 5 t (aU l)] (.bool (lK l)) []:=by
 generalize e:lK l=q;refine cG Tryz.func202 ?_;refine Wk ?_;refine⟨Nat,λi=>i<=l.length/\bA (vE l) i=true,λi=>⟨[(0,⟨[],true,.lst 5 t (aU l)⟩),(3,⟨[],true,.int .i64 (i:Int)⟩)],[],0⟩,λi=>l.length-i,⟨0,⟨zN _,rfl⟩,?_⟩,λi F=>?_⟩
 ·exact Vw []
 obtain⟨D,j⟩:=F;dsimp only at D j⊢;refine Wk ?_;rw [bO];refine aC (λf=>?_) (λf=>?_)<;> try simp only [zK,zE,zM,zL,zT] at f
 ·have f:i<l.length:=by simp at f;omega
  have B:vE l i=bif !eH (l.getD i p0) then true else bif decide (0< (i:Int)) then !fT (l.getD (i-1) p0) (l.getD i p0) else false:=rfl
  have hg:=kC l i f;have C:=kC l (i-1) (by omega);have m:=bMQ (l.getD i p0);have z:=bMR (l.getD (i-1) p0) (l.getD i p0);generalize l.getD i p0=b at *;generalize l.getD (i-1) p0=a at *;refine Wk ?_;refine⟨λ_=>⟨rfl,by omega,by rw [bO];omega⟩,?_⟩;rw [zC,hg];refine cS m ?_;rw [aO (n:=(i:Int)-1) (by omega) (by omega),show((i:Int)-1).toNat=i-1 by omega];refine⟨λhg=>⟨rfl,by simp only [zG,decide_eq_true_eq] at hg;omega,by rw [bO];omega⟩,?_⟩;rw [C];refine Wk ?_
  refine⟨λ_=>⟨rfl,by omega,by rw [bO];omega⟩,?_⟩;rw [zC,hg];refine cS z ?_;rw [<-B]
  cases E:vE l i with
  |true=>
   have e:false=q:=by rw [<-e];exact(eB f E).symm
   subst e;refine Wk ?_
   try subst e
   exact Lf
  |false=> refine Wk ?_;rw [dW (by omega)];refine⟨i+1,⟨by show i+1<=_;omega,by show bA (vE l) (i+1)=true;simp only [bA,j,E];rfl⟩,?_,by show l.length- (i+1)<l.length-i;omega⟩;exact Vw []
 have f:i=l.length:=by simp at f;omega
 subst f;have e:true=q:=by rw [<-e];exact j.symm
 subst e;refine Wk ?_
 try subst e
 exact Lf
def oY(f:Int)(p:Pt):Bool:=p.frame != f
def nW(l:List Pt)(f:Int):List Pt:=bif lK l then l.filter (oY f) else l
theorem bMH(l:List Pt)(f:Int)(E:lK l=true)(H:l.length<=100000):aN Tryz.prog 248 [] [.lst 5 false (aU l),.int .i64 f] (.lst 5 false (aU (nW l f))) []:=by
 have m:=bM4 l false H;rw [E] at m;unfold nW;rw [E,zct];refine cG Tryz.func248 ?_;refine cS m ?_;refine⟨Nat,λk=>k<=l.length,λk=>⟨[(0,⟨[],true,.lst 5 false (aU l)⟩),(1,⟨[],true,.int .i64 f⟩),(5,⟨[],true,.sl 0 0 ((l.take k).filter (oY f)).length⟩),(6,⟨[],true,.int .i64 (k:Int)⟩)],[(0,.row 5 (aU ((l.take k).filter (oY f))))],1⟩,λk=>l.length-k,⟨0,zN _,?_⟩,λk G=>?_⟩
 ·exact Vw [none]
 dsimp only at G⊢;have C:((l.take k).filter (oY f)).length<=100000:=by have :=List.length_filter_le (oY f) (l.take k);have :=List.length_take_le k l;omega
 refine Wk ?_;rw [bO];refine aC (λz=>?_) (λz=>?_)<;> try simp only [zK,zE,zM,zL,zT] at z
 ·have z:k<l.length:=by simp at z;omega
  have e:=sO (oY f) l k p0 z;have hg:=kC l k z;have B:((l.getD k p0).frame != f)=oY f (l.getD k p0):=rfl;generalize l.getD k p0=j at e hg B;generalize(l.take k).filter (oY f)=F at e C;refine Wk ?_;refine aG (⟨rfl,by omega,by rw [bO];omega⟩) ?_;rw [zC,hg];refine Wk ?_;rw [B]
  cases D:oY f j with
  |true=>
   rw [D,zct] at e;refine Wk ?_;refine aG (⟨rfl,by omega,by rw [bO];omega⟩) ?_;rw [zC,hg];refine Wk ?_;refine aG (bO F).symm (cC (by rw [bO];show((F.length+1:Nat):Int)<=_;omega) (by rw [bO];show(F.length+1)*32<=_;omega) ?_);refine Wk ?_;rw [dW (by omega)];refine⟨k+1,by show k+1<=_;omega,?_,by show l.length- (k+1)<l.length-k;omega⟩;dsimp only;rw [e];refine bS [some 2] rfl rfl ?_ rfl ?_ rfl ?_
   repeat' (first |exact trivial |rfl |exact .inl rfl |exact .inr rfl |exact id |exact zbc |apply And.intro)
   ·show aU F++ [j.c]=_;simp [aU]
   ·show(aU F).length+1=_;rw [bO,List.length_append];rfl
  |false=> rw [D,zcf] at e;refine Wk ?_;rw [dW (by omega)];refine⟨k+1,by show k+1<=_;omega,?_,by show l.length- (k+1)<l.length-k;omega⟩;dsimp only;rw [e];exact Vw [some 0]
 have z:k=l.length:=by simp at z;omega
 subst z;rw [List.take_length];refine Wk ?_;refine⟨[],trivial,rfl,trivial,rfl,?_⟩
 repeat' (first |exact trivial |rfl |exact .inl rfl |exact .inr rfl |exact id |exact zbc |apply And.intro)
 ·rw [bO];omega
 ·exact cM rfl (bO _)
def Dc.o2(c:Dc):List V:= [.sl 0 0 c.fl.length,.sl 1 0 c.fr.length,.lst 6 false (aJ c.zo),.lst 3 false (aR c.gr),.sl 2 0 c.ls.length,.sl 3 0 c.ck.length,.lst 5 false (aU c.pt)]
def Dc.ob2(c:Dc):List Sk.Obj:= [.row 15 (bU c.fl),.row 9 (aY c.fr),.row 3 (bG c.ls),.row 1 (aB c.ck)]
def Dc.gone(c:Dc)(n:Nat)(u:Us)(v:Int):Dc:= ⟨c.fl.set u.file (gU (c.fl.getD u.file bC) (dX (c.fl.getD u.file bC).E u.page (v,0))),c.fr.set n none,(eN c.zo c.zo ((n+1:Nat):Int)).1,(gC c.gr u.ten).1,c.ls.set u.ten (kE (c.ls.getD u.ten l0) ((n+1:Nat):Int)).1,c.ck,nW c.pt ((n+1:Nat):Int)⟩
theorem bLS(c:Dc)(n:Nat)(u:Us)(v:Int)(R:SmD c)(h:aPW c n u)(hg:u.ten<c.gr.length)(ae:nR c.gr=true)(hz:fO c.zo)(hl:eD (c.ls.getD u.ten l0))(hp:lK c.pt=true)(af:c.pt.length<=100000):
 aN Tryz.prog 154 [] [.agg c.c,.int .i64 ((n+1:Nat):Int),.int .i64 v] (.agg (c.gone n u v).o2) (c.gone n u v).ob2:=by
 have ab:=aP1 c R;have W:=bMH c.pt ((n+1:Nat):Int) hp af;have Y:=bMI (c.ls.getD u.ten l0) ((n+1:Nat):Int) hl;have Z:=bMK c.gr u.ten hg ae;have aa:=bML c.zo false ((n+1:Nat):Int) hz;have H:=aX8 h.E h.sup u.page h.page v;have Q:bK (dX (c.fl.getD u.file bC).E u.page (v,0)):=h.E.set (Nat.zero_lt_succ _) (λ_=>rfl);obtain⟨h1,h2,h3,h4,h5,h6,h7,h8,h9,ah,ai⟩:=h;obtain⟨D,m,G,gr,B,N,O⟩:=c;have al:=R.fr;have am:=R.ls;have ak:=R.fl;have aj:=R.ck;unfold Dc.gone Dc.o2 Dc.ob2
 dsimp only at *;have j:=gR m n h1;rw [h2] at j;have j:(aY m).getD n []=u.c:=j;have F:=gQ D u.file h3;have T:=fY B u.ten h9;have z:=aAP D u.file _ h3 h5 Q;rw [F] at z;have J:∀x:Ls,(bG B).set u.ten (aS 3 (B.getD u.ten l0).c 0 x.c)=bG (B.set u.ten x):=λx=>jZ B u.ten x;have K:(aY m).set n (aS 9 u.c 0 fre.c)=aY (m.set n none):=by have :aS 9 u.c 0 fre.c=fre.c:=rfl;rw [this];unfold aY;rw [List.map_set];rfl
 generalize(eN G G ((n+1:Nat):Int)).1=ap at *;generalize(eN G G ((n+1:Nat):Int)).2=ze at *;generalize(gC gr u.ten).1=ag at *;generalize(gC gr u.ten).2=ge at *;generalize nW O ((n+1:Nat):Int)=ao at *;generalize D.getD u.file bC=f at *;generalize B.getD u.ten l0=l at *;generalize(kE l ((n+1:Nat):Int)).2=le at *;generalize(kE l ((n+1:Nat):Int)).1=l2 at *;obtain⟨k0,k1,k2,k3,e⟩:=cB h5;obtain⟨q0,q1,q2,q3,e'⟩:=cB Q
 have ad:f.c=[.int .i64 f.dev,.int .i64 f.slot,.int .i64 (hgt f.E:Int),.lst k0 k1 k2,.int .i64 k3,.int .i64 (nS f.E 0 (4^hgt f.E):Nat),.int .i64 (f.size:Int),.int .i64 (f.blocks:Int),.int .i64 f.ec,.int .i64 f.ee,.int .i64 0,.int .i64 0,.int .i64 0,.int .i64 0,.int .i64 0]:=by unfold Df.c;rw [e];rfl
 rw [ad] at F z;rw [e'] at z;rw [e,e'] at H;rw [zD,zD,zD];rw [<-z,<-K,<-J];obtain⟨C,ac,⟨pb,pv,pd⟩,M,holds,rd,wr⟩:=u;dsimp only at *;have j:(aY m).getD n []=[.int .i64 (C:Int),.int .i64 (ac:Int),.str pb,.int .i64 (pv:Int),.int .i64 (pd:Int),.int .i64 (M:Int),.int .i64 (holds:Int),.int .i64 (rd:Int),.int .i64 (wr:Int)]:=j
 have e0:(Dc.mk D m G gr B N O).c=[.lst 15 false (bU D),.lst 9 false (aY m),.lst 6 false (aJ G),.lst 3 false (aR gr),.lst 3 false (bG B),.lst 1 false (aB N),.lst 5 false (aU O)]:=rfl;have e1:(Dc.mk D m G gr B N O).o=[.sl 0 0 D.length,.sl 1 0 m.length,.lst 6 false (aJ G),.sl 2 0 gr.length,.sl 3 0 B.length,.sl 4 0 N.length,.lst 5 false (aU O)]:=rfl;have e2:(Dc.mk D m G gr B N O).ob=[.row 15 (bU D),.row 9 (aY m),.row 3 (aR gr),.row 3 (bG B),.row 1 (aB N)]:=rfl
 rw [e0,e1,e2] at ab;rw [e0];refine cG Tryz.func154 ?_;refine Wk ?_;rw [dJ,aO (n:=((n+1:Nat):Int)-1) (by omega) (by omega),show((n+1:Nat):Int)-1=(n:Int) by omega,show decide (9=9/\0<=(n:Int)/\(n:Int)< (m.length:Int))=true from zdt ⟨rfl,by omega,by omega⟩];rw [zC,j];refine Wk ?_;refine .inr ⟨λ_=>⟨[],_,_,_,ab,trivial,rfl,rfl,rfl,?_⟩,(by intro h;cases h)⟩
 refine cS W ?_;refine⟨λ_=>⟨rfl,by omega,by rw [bW];omega⟩,?_⟩;rw [zC,T];refine cS Y ?_;refine⟨λ_=>⟨by omega,by omega⟩,?_⟩;refine Wk ?_;rw [show 0+(M:Int).toNat=M by omega,T];refine⟨by rw [bW];omega,by omega,?_⟩;refine Wk2 Z aa ?_;refine⟨λ_=>⟨rfl,by omega,by rw [cO];omega⟩,?_⟩;rw [zC,F];refine cS H ?_;refine⟨λ_=>⟨by omega,by omega⟩,?_⟩;refine Wk ?_;rw [show 0+(C:Int).toNat=C by omega,F];refine⟨by rw [cO];omega,by omega,?_⟩;refine Wk ?_
 rw [aO (n:=((n+1:Nat):Int)-1) (by omega) (by omega),show((n+1:Nat):Int)-1=(n:Int) by omega,show decide (0<=(n:Int)/\(n:Int)< (m.length:Int))=true from zdt ⟨by omega,by omega⟩];refine Wk ?_;rw [show 0+(n:Int).toNat=n by omega,show decide (n< (aY m).length)=true from zdt (by rw [dJ];exact h1),j];refine Wk ?_;exact⟨[some 3,some 4,some 6,some 7],Cl,rfl,Cl,rfl,Cl⟩
def Dc.evi(c:Dc)(n:Nat)(u:Us):Dc:=
 let d:=c.gone n u (0- (c.ck.getD u.ten 0+1))
 ⟨d.fl,d.fr,d.zo,d.gr,d.ls,d.ck.set u.ten (min (c.ck.getD u.ten 0+1) 1000000),d.pt⟩
structure OkF(f:Df):Prop where
 E:bK f.E
 sup:Sup f.E
 lo:∀p,-1000001<=(f.E p).1
 size:f.size<=128
 blocks:f.blocks<256
 ec:0<=f.ec/\f.ec<=1000000
 ee:(f.ec=0↔f.ee=0)
structure OkU(c:Dc)(n:Nat)(u:Us):Prop where
 file:u.file<c.fl.length
 page:u.page<8
 pg:gJ u.p
 ten:u.ten<c.gr.length
 holds:u.holds<=255
 rd:u.rd<4
 wr:u.wr<4
 val:((c.fl.getD u.file bC).E u.page).1=((n+1:Nat):Int)
def vK(l:Ls)(x:Int):Prop:=x∈l.A\/x∈l.I
structure Ok(c:Dc):Prop where
 nf:c.fl.length<=3
 nr:c.fr.length<=64
 ng:c.gr.length<=4
 nl:c.ls.length=c.gr.length
 nk:c.ck.length=c.gr.length
 file:∀f,f<c.fl.length->OkF (c.fl.getD f bC)
 use:∀n u,n<c.fr.length->c.fr.getD n none=some u->OkU c n u
 ent:∀f p,f<c.fl.length->0< ((c.fl.getD f bC).E p).1->∃n u,n<c.fr.length/\((c.fl.getD f bC).E p).1=((n+1:Nat):Int)/\c.fr.getD n none=some u/\u.file=f/\u.page=p
 zone:aX c.zo=true
 free:∀z∈c.zo,∀x∈z.free,∃n,n<c.fr.length/\x=((n+1:Nat):Int)/\c.fr.getD n none=none
 gr:nR c.gr=true
 ls:∀t,t<c.ls.length->dM (c.ls.getD t l0)=true
 mem:∀t x,t<c.ls.length->vK (c.ls.getD t l0) x->∃n u,n<c.fr.length/\x=((n+1:Nat):Int)/\c.fr.getD n none=some u/\u.ten=t
 ck:∀t,0<=c.ck.getD t 0/\c.ck.getD t 0<=1000000
 pt:lK c.pt=true
theorem aX0 {α:Type} (f:α->Int)(n:Nat):∀ {l:List α},(l.map f).Nodup->(∀x∈l,0<=f x/\f x<n)->l.length<=n:=by intro l e h2;have :=uG n (l:=l.map f) (lo:=0) e (λx j=>by obtain⟨y,m,rfl⟩:=List.mem_map.1 j;have :=h2 y m;omega);simpa using this
def dQ(p:Pt):Int:=p.proc*64+p.page
theorem aVE {l:List Pt} (h:lK l=true):l.length<=512:=by
 have B:∀i,i<l.length->eH (l.getD i p0)=true/\(0<i->fT (l.getD (i-1) p0) (l.getD i p0)=true):=λi e=>by
  have :=iH h e;unfold vE at this
  cases f:eH (l.getD i p0) with
  |false=>rw [f] at this;cases this
  |true=> rw [f,zF,zcf] at this;refine⟨rfl,λh0=>?_⟩;rw [zdt (show 0< (i:Int) by omega),zct] at this;simpa using this
 have z:∀i,i<l.length->(0<=(l.getD i p0).proc/\(l.getD i p0).proc<8)/\0<=(l.getD i p0).page/\(l.getD i p0).page<64:=λi e=>by have :=(B i e).1;unfold eH at this;simp only [zE,zG,decide_eq_true_eq] at this;omega
 have j:∀i,i+1<l.length->(l.map dQ).getD i 0< (l.map dQ).getD (i+1) 0:=λi e=>by
  have f:=(B (i+1) e).2 (by omega);have h2:=z i (by omega);have G:=z (i+1) e;rw [zS] at f;have e1:(l.map dQ).getD i 0=dQ (l.getD i p0):=by simp [zA,show i<l.length by omega]
  have C:(l.map dQ).getD (i+1) 0=dQ (l.getD (i+1) p0):=by simp [zA,e]
  rw [e1,C];unfold fT at f;unfold dQ
  by_cases a:(l.getD i p0).proc< (l.getD (i+1) p0).proc
  ·omega
  ·rw [zdf a,zcf] at f
   by_cases b:(l.getD i p0).proc=(l.getD (i+1) p0).proc
   ·rw [zbe.2 b,zct,decide_eq_true_eq] at f;omega
   ·rw [show((l.getD i p0).proc==(l.getD (i+1) p0).proc)=false from zbn.2 b] at f;cases f
 have m:=aO8 (l:=l.map dQ) (λi e=>j i (by simpa using e));refine aX0 dQ 512 (m.imp λh=>by omega) λx F=>?_;obtain⟨i,e,rfl⟩:=zQ F;have h5:=z i e;have D:l.getD i p0=l[i]:=by simp [zA,e]
 rw [D] at h5;have E:dQ l[i]=l[i].proc*64+l[i].page:=rfl;generalize l[i]=y at *;rw [E];omega
theorem Ok.sm {c:Dc} (h:Ok c):SmD c:=⟨by have :=h.nf;omega,h.nr,h.ng,by rw [h.nl];exact h.ng,by rw [h.nk];exact h.ng⟩
theorem Ok.smZ {c:Dc} (h:Ok c):fO c.zo:=jR h.zone
theorem Ok.smL {c:Dc} (h:Ok c)(t:Nat):eD (c.ls.getD t l0):=by
 by_cases e:t<c.ls.length
 ·exact((bX _).1 (h.ls t e)).small
 ·rw [zA,zP (zI e)];exact⟨zN _,zN _,zN _⟩
theorem Ok.ptl {c:Dc} (h:Ok c):c.pt.length<=100000:=by have :=aVE h.pt;omega
theorem Ok.good {c:Dc} (h:Ok c) {n:Nat} {u:Us} (e:n<c.fr.length)(j:c.fr.getD n none=some u):aPW c n u:=by have k:=h.use n u e j;have f:=h.file _ k.file;exact⟨e,j,k.file,by have :=k.page;omega,f.E,f.sup,by rw [k.val];omega,k.pg,by rw [h.nl];exact k.ten,k.rd,k.wr⟩
def qY(u:Us):Nat×Nat×Nat:=(u.file,u.page,u.ten)
theorem Ok.same {c d:Dc} (h:Ok c)(M:d.fl.length=c.fl.length)(O:∀f p,((d.fl.getD f bC).E p).1=((c.fl.getD f bC).E p).1)
 (hF:∀f,f<c.fl.length->OkF (d.fl.getD f bC)) (C:d.fr.length=c.fr.length) (T:∀n,(d.fr.getD n none).map qY=(c.fr.getD n none).map qY)
 (hU:∀n u,n<c.fr.length->d.fr.getD n none=some u->gJ u.p/\u.holds<=255/\u.rd<4/\u.wr<4) (hz:d.zo=c.zo) (hg:d.gr=c.gr)
 (B:d.ls.length=c.ls.length) (H:∀t,t<c.ls.length->dM (d.ls.getD t l0)=true) (R:∀t x,vK (d.ls.getD t l0) x->vK (c.ls.getD t l0) x)
 (J:d.ck=c.ck) (W:lK d.pt=true):Ok d:=by
 have F:∀n u,d.fr.getD n none=some u->∃v,c.fr.getD n none=some v/\qY v=qY u:=λn u D=>by
  have :=T n;rw [D] at this
  cases j:c.fr.getD n none with
  |none=>rw [j] at this;cases this
  |some v=>rw [j] at this;exact⟨v,rfl,by injection this with this;exact this.symm⟩
 have m:∀n u,c.fr.getD n none=some u->∃v,d.fr.getD n none=some v/\qY v=qY u:=λn u D=>by
  have :=T n;rw [D] at this
  cases j:d.fr.getD n none with
  |none=>rw [j] at this;cases this
  |some v=>rw [j] at this;exact⟨v,rfl,by injection this with this⟩
 refine⟨by rw [M];exact h.nf,by rw [C];exact h.nr,by rw [hg];exact h.ng,by rw [B,hg];exact h.nl,by rw [J,hg];exact h.nk,λf Q=>hF f (by rw [<-M];exact Q),λn u hn D=>?_,λf p Q hp=>?_,by rw [hz];exact h.zone,λz aa x Z=>?_,by rw [hg];exact h.gr,λt Y=>H t (by rw [<-B];exact Y),λt x Y Z=>?_,by rw [J];exact h.ck,W⟩
 ·obtain⟨v,j,e⟩:=F n u D;have N:=h.use n v (by rw [<-C];exact hn) j;obtain⟨g1,g2,g3,g4⟩:=hU n u (by rw [<-C];exact hn) D;simp only [qY,Prod.mk.injEq] at e;obtain⟨e1,G,K⟩:=e;exact⟨by rw [M,<-e1];exact N.file,by rw [<-G];exact N.page,g1,by rw [hg,<-K];exact N.ten,g2,g3,g4,by rw [O,<-e1,<-G];exact N.val⟩
 ·rw [O] at hp;obtain⟨n,u,k1,k2,k3,k4,k5⟩:=h.ent f p (by rw [<-M];exact Q) hp;obtain⟨v,j,e⟩:=m n u k3;simp only [qY,Prod.mk.injEq] at e;obtain⟨e1,G,K⟩:=e;exact⟨n,v,by rw [C];exact k1,by rw [O];exact k2,j,by rw [e1];exact k4,by rw [G];exact k5⟩
 ·obtain⟨n,k1,k2,k3⟩:=h.free z (by rw [<-hz];exact aa) x Z;refine⟨n,by rw [C];exact k1,k2,?_⟩;have :=T n;rw [k3] at this
  cases j:d.fr.getD n none with
  |none=>rfl
  |some v=>rw [j] at this;cases this
 ·obtain⟨n,u,k1,k2,k3,k4⟩:=h.mem t x (by rw [<-B];exact Y) (R t x Z);obtain⟨v,j,e⟩:=m n u k3;simp only [qY,Prod.mk.injEq] at e;obtain⟨e1,G,K⟩:=e;exact⟨n,v,by rw [C];exact k1,k2,j,by rw [K];exact k4⟩
theorem aH {α:Type} (l:List α)(k:Nat)(x d:α)(h:k<l.length):(l.set k x).getD k d=x:=by simp [zA,h]
theorem getD_set_ne {α:Type} (l:List α) {k j:Nat} (x d:α)(h:j≠k):(l.set k x).getD j d=l.getD j d:=by simp [zA,Ne.symm h]
theorem dF {α:Type} (l:List α) {k:Nat} (x:α)(h:l.length<=k):l.set k x=l:=by
 induction l generalizing k with
 |nil=>rfl
 |cons a l e=>
  cases k with
  |zero=>simp at h
  |succ k=>rw [List.set_cons_succ,e (by simpa using h)]
theorem vX(f:Df)(E:dA):(gU f E).E=E:=rfl
theorem OkF.gU {f:Df} (h:OkF f) {E:dA} (e:bK E)(h2:Sup E)(j:∀p,-1000001<=(E p).1):OkF (gU f E):=⟨e,h2,j,h.size,h.blocks,h.ec,h.ee⟩
theorem aOX(E:dA)(u:Us)(p:Nat):(mE E u p).1=(E p).1:=by unfold mE;rw [tC,tC]
theorem Ok.put {c:Dc} (h:Ok c) {n:Nat} {u u':Us} (D:n<c.fr.length)(H:c.fr.getD n none=some u)(G:qY u'=qY u)(O:gJ u'.p)(N:u'.holds<=255)(Q:u'.rd<4)(R:u'.wr<4):Ok (c.put n u'):=by
 have J:=h.use n u D H;simp only [qY,Prod.mk.injEq] at G;obtain⟨e1,F,K⟩:=G;have z:u'.file<c.fl.length:=by rw [e1];exact J.file
 have C:=h.file _ z;have B:=bE1 (u:=u') C.E C.sup (by rw [e1,F,J.val];omega);refine h.same (by simp [Dc.put,Dc.mark,Dc.setU]) (λf p=>?_) (λf M=>?_) (by simp [Dc.put,Dc.mark,Dc.setU]) (λm=>?_) (λm v B j=>?_) rfl rfl rfl h.ls (λ_ _ x=>x) rfl h.pt
 ·show(((c.fl.set u'.file (gU (c.fl.getD u'.file bC) (mE (c.fl.getD u'.file bC).E u'))).getD f bC).E p).1=_
  by_cases e:f=u'.file
  ·subst e;rw [aH _ _ _ _ z,vX,aOX]
  ·rw [getD_set_ne _ _ _ e]
 ·show OkF ((c.fl.set u'.file (gU (c.fl.getD u'.file bC) (mE (c.fl.getD u'.file bC).E u'))).getD f bC)
  by_cases e:f=u'.file
  ·subst e;rw [aH _ _ _ _ z];exact C.gU B.1 B.2 (λp=>by rw [aOX];exact C.lo p)
  ·rw [getD_set_ne _ _ _ e];exact h.file f M
 ·show((c.fr.set n (some u')).getD m none).map qY=_
  by_cases e:m=n
  ·subst e;rw [aH _ _ _ _ D,H];simp [qY,e1,F,K]
  ·rw [getD_set_ne _ _ _ e]
 ·have j:(c.fr.set n (some u')).getD m none=some v:=j
  by_cases e:m=n
  ·subst e;rw [aH _ _ _ _ D] at j;injection j with j;subst j;exact⟨O,N,Q,R⟩
  ·rw [getD_set_ne _ _ _ e] at j;have :=h.use m v B j;exact⟨this.pg,this.holds,this.rd,this.wr⟩
theorem aKK {l:Ls} (B:dM l=true)(f:Int):dM (nM l f).1=true/\∀x,vK (nM l f).1 x->vK l x:=by
 have j:=(bX l).1 B;unfold nM;rw [B,zF,zcf]
 cases M:cE f with
 |false=>exact⟨B,λ_ h=>h⟩
 |true=>
  rw [zF,zcf]
  cases h2:lO l f with
  |false=>exact⟨B,λ_ h=>h⟩
  |true=>
   rw [zF,zcf];have z:f∈l.A++l.I:=by simpa [lO] using h2
   have F:=j.known f z
   cases G:decide (f∈l.R) with
   |false=>
    rw [Bool.not_false,zct];have C:f∉l.R:=by simpa using G
    refine⟨(bX _).2 ⟨j.nodup,j.known,?_,λx e=>?_⟩,λ_ h=>h⟩
    ·have H:kS 1 65 l.R:=⟨j.asc,λx e=>by have :=j.known x (j.sub x e);omega⟩;exact(H.ins ⟨F.1,by omega⟩ C).asc
    ·rcases aAE.1 e with rfl |e
     ·exact z
     ·exact j.sub x e
   |true=>
    rw [zF,zcf]
    cases h4:decide (f∈l.I) with
    |false=>exact⟨B,λ_ h=>h⟩
    |true=>
     rw [zct];have m:f∈l.I:=by simpa using h4
     have E:=j.notA m;refine⟨(bX _).2 ⟨?_,λx e=>?_,aKP j.asc f,λx e=>?_⟩,λx e=>?_⟩
     ·show((f::wo l.A f)++wo l.I f).Nodup;rw [rN E];have D:=List.nodup_append.1 j.nodup;rw [zO,List.nodup_cons];refine⟨λe=>?_,List.nodup_append.2 ⟨D.1,aGY D.2.1 f,λa J b K=>D.2.2 a J b (dO.1 K).1⟩⟩;rcases List.mem_append.1 e with e |e
      ·exact E e
      ·exact(dO.1 e).2 rfl
     ·have e:x∈(f::wo l.A f)++wo l.I f:=e;rw [zO,zR,zH,dO,dO] at e;rcases e with rfl | ⟨e,_⟩| ⟨e,_⟩
      ·exact F
      ·exact j.known x (List.mem_append_left _ e)
      ·exact j.known x (List.mem_append_right _ e)
     ·have e:x∈wo l.R f:=e;rw [dO] at e;show x∈(f::wo l.A f)++wo l.I f;rw [zO,zR,zH,dO,dO];rcases List.mem_append.1 (j.sub x e.1) with h |h
      ·exact .inr (.inl ⟨h,e.2⟩)
      ·exact .inr (.inr ⟨h,e.2⟩)
     ·unfold vK at e⊢;dsimp only at e;rw [zR,dO,dO] at e;rcases e with (rfl |h)|h
      ·exact .inr m
      ·exact .inl h.1
      ·exact .inr h.1
theorem Ok.acc {c:Dc} (h:Ok c)(n t:Nat):Ok (c.acc n t):=by
 refine h.same rfl (λ_ _=>rfl) h.file rfl (λ_=>rfl) (λm v z B=>?_) rfl rfl (by simp [Dc.acc]) (λs j=>?_) (λs x f=>?_) rfl h.pt
 ·have :=h.use m v z B;exact⟨this.pg,this.holds,this.rd,this.wr⟩
 ·show dM ((c.ls.set t (nM (c.ls.getD t l0) ((n+1:Nat):Int)).1).getD s l0)=true
  by_cases e:s=t
  ·subst e;rw [aH _ _ _ _ j];exact(aKK (h.ls _ j) _).1
  ·rw [getD_set_ne _ _ _ e];exact h.ls s j
 ·have f:vK ((c.ls.set t (nM (c.ls.getD t l0) ((n+1:Nat):Int)).1).getD s l0) x:=f
  by_cases e:s=t
  ·subst e
   by_cases j:s<c.ls.length
   ·rw [aH _ _ _ _ j] at f;exact(aKK (h.ls _ j) _).2 x f
   ·rw [dF _ _ (zI j)] at f;exact f
  ·rw [getD_set_ne _ _ _ e] at f;exact f
theorem uB {a b:Pt} (j:eH a=true)(h2:eH b=true):fT a b=true↔dQ a<dQ b:=by
 unfold eH at j h2;simp only [zE,zG,decide_eq_true_eq] at j h2;unfold fT dQ
 by_cases e:a.proc<b.proc
 ·rw [zdt e,zct];exact⟨λ_=>by omega,λ_=>rfl⟩
 ·rw [zdf e,zcf]
  by_cases f:a.proc=b.proc
  ·rw [zbe.2 f,zct,decide_eq_true_eq];omega
  ·rw [show(a.proc==b.proc)=false from zbn.2 f,zcf];exact⟨(λh=>by cases h),(λh=>by omega)⟩
theorem aLY(l:List Pt)(i:Nat)(h:i<l.length):l.getD i p0=l[i]:=by simp [zA,h]
theorem kI(l:List Pt):lK l=true↔(∀x∈l,eH x=true)/\l.Pairwise (λa b=>dQ a<dQ b):=by
 constructor
 ·intro h
  have z:∀i,i<l.length->eH (l.getD i p0)=true/\(0<i->fT (l.getD (i-1) p0) (l.getD i p0)=true):=λi f=>by
   have :=iH h f;unfold vE at this
   cases j:eH (l.getD i p0) with
   |false=>rw [j] at this;cases this
   |true=> rw [j,zF,zcf] at this;refine⟨rfl,λh0=>?_⟩;rw [zdt (show 0< (i:Int) by omega),zct] at this;simpa using this
  refine⟨λx D=>?_,?_⟩
  ·obtain⟨i,f,rfl⟩:=zQ D;rw [<-aLY l i f];exact(z i f).1
  ·have m:∀i,i+1<l.length->(l.map dQ).getD i 0< (l.map dQ).getD (i+1) 0:=λi f=>by
    have j:=(z (i+1) f).2 (by omega);rw [zS,uB (z i (by omega)).1 (z _ f).1] at j;have e1:(l.map dQ).getD i 0=dQ (l.getD i p0):=by simp [zA,show i<l.length by omega]
    have B:(l.map dQ).getD (i+1) 0=dQ (l.getD (i+1) p0):=by simp [zA,f]
    rw [e1,B];exact j
   exact List.pairwise_map.1 (aO8 (l:=l.map dQ) (λi f=>m i (by simpa using f)))
 ·intro⟨j,h2⟩
  have :∀n,n<=l.length->bA (vE l) n=true:=by
   intro n
   induction n with
   |zero=>intro _;rfl
   |succ n E=>
    intro F
    have C:vE l n=false:=by
     unfold vE;rw [aLY l n (by omega),j _ (zJ (by omega)),zF,zcf]
     by_cases e:0<n
     ·rw [zdt (show 0< (n:Int) by omega),zct,aLY l (n-1) (by omega),(uB (j _ (zJ (by omega))) (j _ (zJ (by omega)))).2 (List.pairwise_iff_getElem.1 h2 (n-1) n (by omega) (by omega) (by omega))];rfl
     ·rw [zdf (show ¬0< (n:Int) by omega),zcf]
    simp only [bA,E (by omega),C];rfl
  exact this _ (Nat.le_refl _)
theorem aVO {l:List Pt} (h:lK l=true)(f:Int):lK (nW l f)=true:=by unfold nW;rw [h,zct,kI];have :=(kI l).1 h;exact⟨λx e=>this.1 x (List.mem_filter.1 e).1,this.2.sublist List.filter_sublist⟩
theorem aQ5 {g:List Gr} (h:nR g=true) {t:Nat} {n:Int} (m:0<=n)(z:n<=64):nR (aLC g t n)=true:=by
 simp only [nR,zG] at h⊢;rw [sG];refine⟨rF λi j=>?_,h.2⟩;have f:=iH h.1 j;unfold mM aLC at *
 by_cases e:i=t
 ·subst e;rw [aH _ _ _ _ j];simp only [aOA,Bool.or_eq_false_iff,zdn] at f⊢;omega
 ·rw [getD_set_ne _ _ _ e];exact f
theorem aZ2 {g:List Gr} (h:nR g=true) {t:Nat} (f:t<g.length):nR (gC g t).1=true/\(gC g t).1.length=g.length:=by
 have j:=aF6 h f;unfold gC
 by_cases e:(g.getD t g0).chg<1
 ·rw [zdt e,zct];exact⟨h,rfl⟩
 ·rw [zdf e,zcf];exact⟨aQ5 h (by omega) (by omega),sG _ _ _⟩
theorem aTD {l:List Zn} (h:aX l=true)(f:Int):∀z∈(eN l l f).1,∀x∈z.free,x=f\/∃z∈l,x∈z.free:=by
 have m:=aDU (base:=l) (f:=f) h;generalize eN l l f=q at m;intro z j x e
 cases m with
 |range _=>exact .inr ⟨z,j,e⟩
 |free _ _ _ _=>exact .inr ⟨z,j,e⟩
 |ok i B C D=>
  rcases List.mem_or_eq_of_mem_set j with j |rfl
  ·exact .inr ⟨z,j,e⟩
  ·rcases aAE.1 e with rfl |e
   ·exact .inl rfl
   ·exact .inr ⟨_,zJ B,e⟩
theorem aRQ {l:Ls} (z:dM l=true) {f:Int} (E:cE f=true):dM (kE l f).1=true/\∀x,vK (kE l f).1 x->vK l x/\x≠f:=by
 have m:=(bX l).1 z;unfold kE;rw [z,zF,zcf,E,zF,zcf]
 cases h2:lO l f with
 |false=>
  rw [Bool.not_false,zct];refine⟨z,λx j=>⟨j,λe=>?_⟩⟩;subst e;have :lO l x=true:=by unfold lO;rcases j with h |h <;> simp [h]
  rw [h2] at this;cases this
 |true=>
  rw [zF,zcf];have B:=List.nodup_append.1 m.nodup;refine⟨(bX _).2 ⟨List.nodup_append.2 ⟨aGY B.1 f,aGY B.2.1 f,λa C b D=>B.2.2 a (dO.1 C).1 b (dO.1 D).1⟩,λx j=>?_,aKP m.asc f,λx j=>?_⟩,λx j=>?_⟩
  ·have j:x∈wo l.A f++wo l.I f:=j;rw [zH,dO,dO] at j;exact m.known x (by rw [zH];rcases j with h |h;exact .inl h.1;exact .inr h.1)
  ·have j:x∈wo l.R f:=j;rw [dO] at j;show x∈wo l.A f++wo l.I f;rw [zH,dO,dO];rcases List.mem_append.1 (m.sub x j.1) with h |h
   ·exact .inl ⟨h,j.2⟩
   ·exact .inr ⟨h,j.2⟩
  ·unfold vK at j⊢;dsimp only at j;rw [dO,dO] at j;rcases j with h |h
   ·exact⟨.inl h.1,h.2⟩
   ·exact⟨.inr h.1,h.2⟩
theorem Ok.clk {c:Dc} (h:Ok c)(t:Nat) {x:Int} (j:0<=x)(m:x<=1000000):Ok ⟨c.fl,c.fr,c.zo,c.gr,c.ls,c.ck.set t x,c.pt⟩:=by
 refine⟨h.nf,h.nr,h.ng,h.nl,by rw [zD];exact h.nk,h.file,λn u z B=>?_,h.ent,h.zone,h.free,h.gr,h.ls,h.mem,λs=>?_,h.pt⟩
 ·have k:=h.use n u z B;exact⟨k.file,k.page,k.pg,k.ten,k.holds,k.rd,k.wr,k.val⟩
 ·by_cases e:s=t
  ·subst e
   by_cases f:s<c.ck.length
   ·rw [aH _ _ _ _ f];exact⟨j,m⟩
   ·rw [dF _ _ (zI f)];exact h.ck s
  ·rw [getD_set_ne _ _ _ e];exact h.ck s
theorem Ok.gone {c:Dc} (h:Ok c) {n:Nat} {u:Us} (W:n<c.fr.length)(Y:c.fr.getD n none=some u) {v:Int} (hv:v<=0)(Z: -1000001<=v):Ok (c.gone n u v):=by
 have N:=h.use n u W Y;have R:=h.file _ N.file;have M:cE ((n+1:Nat):Int)=true:=(pX _).2 (by have :=h.nr;omega);have ac:∀z∈(eN c.zo c.zo ((n+1:Nat):Int)).1,∀x∈z.free,x=((n+1:Nat):Int)\/∃z∈c.zo,x∈z.free:=aTD h.zone _;have G:=aZ2 h.gr N.ten
 have hE:∀f p,(((c.gone n u v).fl.getD f bC).E p).1=if f=u.file/\p=u.page then v else((c.fl.getD f bC).E p).1:=λf p=>by
  show(((c.fl.set u.file (gU (c.fl.getD u.file bC) (dX (c.fl.getD u.file bC).E u.page (v,0)))).getD f bC).E p).1=_
  by_cases e:f=u.file
  ·subst e;rw [aH _ _ _ _ N.file,vX]
   by_cases B:p=u.page
   ·subst B;rw [fN,if_pos ⟨rfl,rfl⟩]
   ·rw [eL B,if_neg (λh=>B h.2)]
  ·rw [getD_set_ne _ _ _ e,if_neg (λh=>e h.1)]
 have D:∀m,(c.gone n u v).fr.getD m none=if m=n then none else c.fr.getD m none:=λm=>by
  show(c.fr.set n none).getD m none=_
  by_cases e:m=n
  ·subst e;rw [aH _ _ _ _ W,if_pos rfl]
  ·rw [getD_set_ne _ _ _ e,if_neg e]
 have j:(c.gone n u v).fr.length=c.fr.length:=zD ..;have C:(c.gone n u v).fl.length=c.fl.length:=zD ..;have H:(c.gone n u v).ls.length=c.ls.length:=zD ..
 refine⟨by rw [C];exact h.nf,by rw [j];exact h.nr,by show(gC c.gr u.ten).1.length<=4;rw [G.2];exact h.ng,by show(c.gone n u v).ls.length=(gC c.gr u.ten).1.length;rw [H,G.2];exact h.nl,by show c.ck.length=(gC c.gr u.ten).1.length;rw [G.2];exact h.nk,λf T=>?_,λm w hm O=>?_,λf p T Q=>?_,aM0 (iS.refl _) h.zone,λz hz x K=>?_,G.1,λt F=>?_,λt x F K=>?_,h.ck,aVO h.pt _⟩
 ·show OkF ((c.fl.set u.file (gU (c.fl.getD u.file bC) (dX (c.fl.getD u.file bC).E u.page (v,0)))).getD f bC)
  by_cases e:f=u.file
  ·subst e;rw [aH _ _ _ _ N.file];refine R.gU (R.E.set (Nat.zero_lt_succ _) (λ_=>rfl)) (R.sup.set (by have :=N.page;omega) _) (λp=>?_)
   by_cases B:p=u.page
   ·subst B;rw [fN];exact Z
   ·rw [eL B];exact R.lo p
  ·rw [getD_set_ne _ _ _ e];exact h.file f (by rw [<-C];exact T)
 ·rw [D] at O
  by_cases e:m=n
  ·rw [if_pos e] at O;cases O
  ·rw [if_neg e] at O;have J:=h.use m w (by rw [<-j];exact hm) O;refine⟨by rw [C];exact J.file,J.page,J.pg,by show w.ten< (gC c.gr u.ten).1.length;rw [G.2];exact J.ten,J.holds,J.rd,J.wr,?_⟩;rw [hE,if_neg]
   ·exact J.val
   ·intro⟨e1,B⟩;have :=J.val;rw [e1,B,N.val] at this;omega
 ·rw [hE] at Q⊢
  by_cases e:f=u.file/\p=u.page
  ·rw [if_pos e] at Q;omega
  ·rw [if_neg e] at Q⊢;obtain⟨m,w,k1,k2,k3,k4,k5⟩:=h.ent f p (by rw [<-C];exact T) Q;refine⟨m,w,by rw [j];exact k1,k2,?_,k4,k5⟩;rw [D,if_neg]
   ·exact k3
   ·intro B;subst B;rw [Y] at k3;injection k3 with k3
    subst k3;exact e ⟨k4.symm,k5.symm⟩
 ·rcases ac z hz x K with rfl | ⟨z',ab,aa⟩
  ·exact⟨n,by rw [j];exact W,rfl,by rw [D,if_pos rfl]⟩
  ·obtain⟨m,k1,k2,k3⟩:=h.free z' ab x aa;refine⟨m,by rw [j];exact k1,k2,?_⟩;rw [D];split
   ·rfl
   ·exact k3
 ·have F:t<c.ls.length:=by rw [<-H];exact F
  show dM ((c.ls.set u.ten (kE (c.ls.getD u.ten l0) ((n+1:Nat):Int)).1).getD t l0)=true
  by_cases e:t=u.ten
  ·subst e;rw [aH _ _ _ _ F];exact(aRQ (h.ls _ F) M).1
  ·rw [getD_set_ne _ _ _ e];exact h.ls t F
 ·have F:t<c.ls.length:=by rw [<-H];exact F
  have K:vK ((c.ls.set u.ten (kE (c.ls.getD u.ten l0) ((n+1:Nat):Int)).1).getD t l0) x:=K
  by_cases e:t=u.ten
  ·subst e;rw [aH _ _ _ _ F] at K;obtain⟨g1,g2⟩:=(aRQ (h.ls _ F) M).2 x K;obtain⟨m,w,k1,k2,k3,k4⟩:=h.mem _ x F g1;refine⟨m,w,by rw [j];exact k1,k2,?_,k4⟩;rw [D,if_neg]
   ·exact k3
   ·intro B;subst B;exact g2 k2
  ·rw [getD_set_ne _ _ _ e] at K;obtain⟨m,w,k1,k2,k3,k4⟩:=h.mem t x F K;refine⟨m,w,by rw [j];exact k1,k2,?_,k4⟩;rw [D,if_neg]
   ·exact k3
   ·intro B;subst B;rw [Y] at k3;injection k3 with k3
    subst k3;exact e k4.symm
theorem Ok.evi {c:Dc} (h:Ok c) {n:Nat} {u:Us} (e:n<c.fr.length)(f:c.fr.getD n none=some u):Ok (c.evi n u):=by have j:=h.ck u.ten;exact(h.gone e f (by omega) (by omega)).clk _ (by omega) (by omega)
theorem aPL(c:Dc)(n:Int):nP c n=false\/∃(m:Nat) (u:Us),n=((m+1:Nat):Int)/\m<c.fr.length/\c.fr.getD m none=some u:=by
 cases h:nP c n with
 |false=>exact .inl rfl
 |true=> refine .inr ?_;unfold nP at h;simp only [zE,zG,decide_eq_true_eq] at h;obtain⟨⟨j,h2⟩,e⟩:=h;obtain⟨u,f⟩:=Option.isSome_iff_exists.1 e;exact⟨(n-1).toNat,u,by omega,by omega,f⟩
theorem aKM {c:Dc} {n:Nat} {u:Us} (e:n<c.fr.length)(h2:c.fr.getD n none=some u):nP c ((n+1:Nat):Int)=true:=by unfold nP;rw [zdt (show(1:Int)<=((n+1:Nat):Int) by omega),zdt (show((n+1:Nat):Int)<=(c.fr.length:Int) by omega),show(((n+1:Nat):Int)-1).toNat=n by omega,h2];rfl
def bKU(u:Us)(h:Nat):Us:=⟨u.file,u.page,u.p,u.ten,h,u.rd,u.wr⟩
def bFB(u:Us)(r:Nat):Us:=⟨u.file,u.page,u.p,u.ten,u.holds,r,u.wr⟩
attribute [simp] aA dJ cO aE aK bW bO
theorem aGJ {c:Dc} {n:Nat} {u:Us} (e:n<c.fr.length)(h2:c.fr.getD n none=some u):(aY c.fr).getD n []=u.c:=by rw [gR c.fr n e,h2];rfl
theorem aGI {c:Dc} {f:Nat} (e:f<c.fl.length):(bU c.fl).getD f []=(c.fl.getD f bC).c:=gQ c.fl f e
end Go.Proofs.YtmhapcbjjpadnaaGreat
