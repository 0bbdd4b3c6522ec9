/- Caches. -/
import Derived.Test.YtmhapcbjjpadnaaGreatGDc
import Derived.Test.YtmhapcbjjpadnaaGreatG6c
import Derived.Test.YtmhapcbjjpadnaaGreatGCc
import Derived.Test.YtmhapcbjjpadnaaGreatG4c
import Derived.Test.YtmhapcbjjpadnaaGreatK8c
set_option linter.all false
set_option maxHeartbeats 2000000
set_option maxRecDepth 40000
open Bool renaming cond_false_right→zE,not_true→zF,and_eq_true→zG,cond_true_left→zK,not_eq_false'→zL,not_eq_true'→zM,not_not→zT
open Int renaming toNat_natCast→zA
open List renaming getD_eq_getElem?_getD→zC,length_set→zD,mem_append→zH,getElem_mem→zJ,cons_append→zO,getElem?_eq_none→zP,getElem_of_mem→zQ,mem_cons→zR
open Nat renaming le_of_not_lt→zI,zero_le→zN,add_sub_cancel→zS,or_lt_two_pow→zU
namespace Go.Proofs.YtmhapcbjjpadnaaGreat
open Go Go.Sk Go.RowKit
theorem eC(L:List Ls)(k:Nat)(h:k<L.length):(aU L).getD k []=(L.getD k l0).c:=by have :=aRQ L k h;rwa [zA] at this
def Dc.acc(c:Dc)(n:Nat)(t:Nat):Dc:=⟨c.fl,c.fr,c.zo,c.gr,c.ls.set t (nH (c.ls.getD t l0) ((n+1:Nat):Int)).1,c.ck,c.pt⟩
theorem bON(c:Dc)(n:Nat)(u:Us)(D:SmD c)(G:n<c.fr.length)(M:c.fr.getD n none=some u)(H:u.ten<c.ls.length)(O:dM (c.ls.getD u.ten l0)):
 aM Tryz.prog 127 [] [.agg c.c,.int .i64 ((n+1:Nat):Int)] (.agg (c.acc n u.ten).c) []:=by
 have J:=aIV c D;have f:=bR4 (c.ls.getD u.ten l0) ((n+1:Nat):Int) O;unfold Dc.acc;obtain⟨W,C,zo,gr,j,R,Y⟩:=c;have E:=D.fr;have F:=D.ls;dsimp only at G M H E F f⊢;have m:=cC C n G;rw [M] at m;have m:(aO C).getD n []=u.c:=m;obtain⟨K,N,p,e,holds,Z,wr⟩:=u;dsimp only at H f;have B:=eC j e H;have z:∀x:Ls,(aU j).set e (aS 3 (j.getD e l0).c 0 x.c)=aU (j.set e x):=λx=>iE j e x;generalize j.getD e l0=l at f B z
 generalize(nH l ((n+1:Nat):Int)).2=T at f;generalize(nH l ((n+1:Nat):Int)).1=Q at f⊢;refine cK Tryz.func127 ?_;refine Wk ?_;refine .inr ⟨λ_=>⟨[],_,_,_,J,trivial,rfl,rfl,rfl,?_⟩,(by intro h;cases h)⟩
 refine Wk ?_;rw [aP (n:=((n+1:Nat):Int)-1) (by omega) (by omega),show((n+1:Nat):Int)-1=(n:Int) by omega,show decide (0<=(n:Int)/\(n:Int)< (C.length:Int))=true from zdt ⟨by omega,by omega⟩];refine Wk ?_;rw [show 0+(n:Int).toNat=n by omega,show decide (n< (aO C).length)=true from zdt (by rw [bX];exact G),m];refine Wk ?_;refine⟨λ_=>⟨by show(0:Int)<=(e:Int);omega,by show(e:Int)< (j.length:Int);omega⟩,?_⟩;refine Wk ?_
 refine⟨λ_=>by show 0+(e:Int).toNat< (aU j).length;rw [bW];omega,by omega,?_⟩;rw [show 0+(e:Int).toNat=e by omega,B];refine cO f ?_;refine⟨λ_=>⟨by show(0:Int)<=(e:Int);omega,by show(e:Int)< (j.length:Int);omega⟩,?_⟩;refine Wk ?_;rw [show 0+(e:Int).toNat=e by omega,B];refine⟨by show e< (aU j).length;rw [bW];omega,by omega,?_⟩;refine Wk ?_;refine⟨[],trivial,rfl,trivial,rfl,?_⟩
 repeat' (first |exact trivial |rfl |exact .inl rfl |exact .inr rfl |exact id |exact zbc |apply And.intro)
 all_goals first
  |exact cF rfl (cP _)
  |exact cF rfl (bX _)
  |exact cF rfl (aL _)
  |exact cF rfl (aA _)
  | (rw [cP];omega)
  | (rw [bX];omega)
  | (rw [aL];omega)
  | (rw [aA];omega)
  |exact cF (z Q) (by rw [zD];exact bW j)
  | (rw [zD,bW];show 0+j.length<=j.length;omega)
def fK(c:Dc)(n:Int):Bool:=bif (bif decide (1<=n) then decide (n<=(c.fr.length:Int)) else false) then(c.fr.getD (n-1).toNat none).isSome else false
def iJ(u:Us):Bool:=bif (bif (u.holds:Int)==0 then(u.rd:Int)==0 else false) then(u.wr:Int)==0 else false
theorem bDR(u:Us):aM Tryz.prog 28 [] [.agg u.c] (.bool (iJ u)) []:=by obtain⟨e,f,p,j,holds,m,z⟩:=u;refine cK Tryz.func28 ?_;refine Wk ?_;exact Lf
theorem bGT(u:Us):aM Tryz.prog 151 [] [.agg u.c] (.bool (iJ u)) []:=by obtain⟨e,f,p,j,holds,m,z⟩:=u;refine cK Tryz.func151 ?_;refine Wk ?_;exact Lf
theorem aK9(L:List (Option Us))(k:Nat):(aO L).getD k []=[]\/∃o,(aO L).getD k []=frC o:=by
 by_cases h:k<L.length
 ·exact .inr ⟨_,cC L k h⟩
 ·exact .inl (by simp [aO,zC,zP (zI h)])
theorem aBX(c:Dc)(n:Int)(K:SmD c):aM Tryz.prog 70 [] [.agg c.c,.int .i64 n] (.bool (fK c n)) []:=by
 obtain⟨D,f,J,gr,F,C,H⟩:=c;have B:=K.fr;dsimp only at B;generalize e:fK ⟨D,f,J,gr,F,C,H⟩ n=q;unfold fK at e;dsimp only at e;show aM Tryz.prog 70 [] [.agg [.lst 15 false (aX D),.lst 9 false (aO f),.lst 6 false (aK J),.lst 3 false (aQ gr),.lst 3 false (aU F),.lst 1 false (aB C),.lst 5 false (aN H)],.int .i64 n] (.bool q) [];refine cK Tryz.func70 ?_;refine Wk ?_;rw [bX]
 cases j:(bif decide (1<=n) then decide (n<=(f.length:Int)) else false) with
 |false=>
  rw [j,zcf] at e;subst e;refine Wk ?_;rcases aK9 f (IntKind.i64.wrap (n-1)).toNat with h2 | ⟨o,h2⟩
  ·rw [h2];refine Wk ?_
   try subst e
   exact Lf
  ·rw [h2]
   cases o with
   |none=>
    refine Wk ?_
    try subst e
    exact Lf
   |some u=>
    refine Wk ?_
    try subst e
    exact Lf
 |true=>
  rw [j,zct] at e
  have N:1<=n/\n<=(f.length:Int):=by
   by_cases a:1<=n
   ·rw [zdt a,zct,decide_eq_true_eq] at j;exact⟨a,j⟩
   ·rw [zdf a] at j;cases j
  obtain⟨m,rfl⟩:∃m:Nat,n=((m+1:Nat):Int):=⟨(n-1).toNat,by omega⟩;rw [show(((m+1:Nat):Int)-1).toNat=m by omega] at e;have hg:=cC f m (by omega);rw [aP (n:=((m+1:Nat):Int)-1) (by omega) (by omega),show((m+1:Nat):Int)-1=(m:Int) by omega];refine aG ⟨rfl,by omega,by omega⟩ ?_;rw [zA,hg]
  cases E:f.getD m none with
  |none=>
   rw [E] at e;subst e;refine Wk ?_
   try subst e
   exact Lf
  |some u=>
   rw [E] at e;subst e;obtain⟨z,G,p,M,holds,O,Q⟩:=u;refine Wk ?_;rw [show((z:Int) != -1)=true from bne_iff_ne.2 (by omega)]
   try subst e
   exact Lf
def findF(E:dJ)(i:Int):Int×Bool:=bif decide (aDY E i<=0) then(0,false) else(aDY E i,true)
theorem bAD(c:Dc)(f:Nat)(i:Int)(N:SmD c)(F:f<c.fl.length)(D:bI (c.fl.getD f aZ).E)(J:Sup (c.fl.getD f aZ).E):
 aM Tryz.prog 33 [] [.agg c.c,.int .i64 (f:Int),.int .i64 i] (.tup [.int .i64 (findF (c.fl.getD f aZ).E i).1,.bool (findF (c.fl.getD f aZ).E i).2]) []:=by
 have B:=aHQ c f F;have j:=aZR D J i;obtain⟨C,M,R,gr,O,K,Q⟩:=c;dsimp only at F D J j⊢;have z:=iD C f F;generalize C.getD f aZ=x at *;obtain⟨k0,k1,k2,k3,e⟩:=cH D;have G:x.c=[.int .i64 x.dev,.int .i64 x.slot,.int .i64 (hgt x.E:Int),.lst k0 k1 k2,.int .i64 k3,.int .i64 (oS x.E 0 (4^hgt x.E):Nat),.int .i64 (x.size:Int),.int .i64 (x.blocks:Int),.int .i64 x.ec,.int .i64 x.ee,.int .i64 0,.int .i64 0,.int .i64 0,.int .i64 0,.int .i64 0]:=by unfold Df.c;rw [e];rfl
 rw [G] at z;rw [e] at j;generalize m:findF x.E i=q;unfold findF at m;generalize aDY x.E i=v at j m;refine cK Tryz.func33 ?_;refine cO B ?_;refine aG (⟨rfl,by omega,by show(f:Int)< ((aX C).length:Int);rw [cP];omega⟩) ?_;rw [zA,z];refine cO j ?_;refine aC (λH=>?_) (λH=>?_)<;> try simp only [zK,zE,zM,zL,zT] at H
 ·rw [H,zct] at m;subst m;refine Wk ?_
  try subst m
  exact Lf
 rw [H,zcf] at m;subst m;refine Wk ?_
 try subst m
 exact Lf
theorem bDU(c:Dc)(n:Int)(K:SmD c):aM Tryz.prog 96 [] [.agg c.c,.int .i64 n] (.bool (fK c n)) []:=by
 obtain⟨D,f,J,gr,F,C,H⟩:=c;have B:=K.fr;dsimp only at B;generalize e:fK ⟨D,f,J,gr,F,C,H⟩ n=q;unfold fK at e;dsimp only at e;show aM Tryz.prog 96 [] [.agg [.lst 15 false (aX D),.lst 9 false (aO f),.lst 6 false (aK J),.lst 3 false (aQ gr),.lst 3 false (aU F),.lst 1 false (aB C),.lst 5 false (aN H)],.int .i64 n] (.bool q) [];refine cK Tryz.func96 ?_;refine Wk ?_;rw [bX]
 cases j:(bif decide (1<=n) then decide (n<=(f.length:Int)) else false) with
 |false=>
  rw [j,zcf] at e;subst e;refine Wk ?_;rcases aK9 f (IntKind.i64.wrap (n-1)).toNat with h2 | ⟨o,h2⟩
  ·rw [h2];refine Wk ?_
   try subst e
   exact Lf
  ·rw [h2]
   cases o with
   |none=>
    refine Wk ?_
    try subst e
    exact Lf
   |some u=>
    refine Wk ?_
    try subst e
    exact Lf
 |true=>
  rw [j,zct] at e
  have N:1<=n/\n<=(f.length:Int):=by
   by_cases a:1<=n
   ·rw [zdt a,zct,decide_eq_true_eq] at j;exact⟨a,j⟩
   ·rw [zdf a] at j;cases j
  obtain⟨m,rfl⟩:∃m:Nat,n=((m+1:Nat):Int):=⟨(n-1).toNat,by omega⟩;rw [show(((m+1:Nat):Int)-1).toNat=m by omega] at e;have hg:=cC f m (by omega);rw [aP (n:=((m+1:Nat):Int)-1) (by omega) (by omega),show((m+1:Nat):Int)-1=(m:Int) by omega];refine aG ⟨rfl,by omega,by omega⟩ ?_;rw [zA,hg]
  cases E:f.getD m none with
  |none=>
   rw [E] at e;subst e;refine Wk ?_
   try subst e
   exact Lf
  |some u=>
   rw [E] at e;subst e;obtain⟨z,G,p,M,holds,O,Q⟩:=u;refine Wk ?_;rw [show decide ((0:Int)<=(z:Int))=true from zdt (by omega)]
   try subst e
   exact Lf
def eN(p:Pt):Bool:=bif (bif (bif (bif (bif decide (0<=p.proc) then decide (p.proc<8) else false) then decide (0<=p.page) else false) then decide (p.page<64) else false) then decide (1<=p.frame) else false) then decide (p.frame<=64) else false
def eX(a b:Pt):Bool:=bif decide (a.proc<b.proc) then true else bif a.proc==b.proc then decide (a.page<b.page) else false
theorem bHE(p:Pt):aM Tryz.prog 273 [] [.agg p.c] (.bool (eN p)) []:=by obtain⟨j,f,e,z,m⟩:=p;refine cK Tryz.func273 ?_;refine Wk ?_;exact Lf
theorem bAA(a b:Pt):aM Tryz.prog 274 [] [.agg a.c,.agg b.c] (.bool (eX a b)) []:=by obtain⟨C,B,f,F,D⟩:=a;obtain⟨m,j,e,E,z⟩:=b;refine cK Tryz.func274 ?_;refine Wk ?_;exact Lf
def aAK(l:List Pt)(j:Nat):Bool:=bif !eN (l.getD j p0) then true else bif decide (0< (j:Int)) then !eX (l.getD (j-1) p0) (l.getD j p0) else false
def kU(l:List Pt):Bool:=bD (aAK l) l.length
theorem gH(L:List Pt)(k:Nat)(h:k<L.length):(aN L).getD k []=(L.getD k p0).c:=by have :=aAW L k h;rwa [zA] at this
theorem aTJ(l:List Pt)(t:Bool)(G:l.length<=100000):aM Tryz.prog 202 [] [.lst 5 t (aN l)] (.bool (kU l)) []:=by
 generalize e:kU l=q;refine cK Tryz.func202 ?_;refine Wk ?_;refine⟨Nat,λi=>i<=l.length/\bD (aAK l) i=true,λi=>⟨[(0,⟨[],true,.lst 5 t (aN l)⟩),(3,⟨[],true,.int .i64 (i:Int)⟩)],[],0⟩,λi=>l.length-i,⟨0,⟨zN _,rfl⟩,?_⟩,λi F=>?_⟩
 ·exact Vw []
 obtain⟨D,j⟩:=F;dsimp only at D j⊢;refine Wk ?_;rw [bT];refine aC (λf=>?_) (λf=>?_)<;> try simp only [zK,zE,zM,zL,zT] at f
 ·have f:i<l.length:=by simp at f;omega
  have B:aAK l i=bif !eN (l.getD i p0) then true else bif decide (0< (i:Int)) then !eX (l.getD (i-1) p0) (l.getD i p0) else false:=rfl
  have hg:=gH l i f;have C:=gH l (i-1) (by omega);have m:=bHE (l.getD i p0);have z:=bAA (l.getD (i-1) p0) (l.getD i p0);generalize l.getD i p0=b at *;generalize l.getD (i-1) p0=a at *;refine Wk ?_;refine⟨λ_=>⟨rfl,by omega,by rw [bT];omega⟩,?_⟩;rw [zA,hg];refine cO m ?_;rw [aP (n:=(i:Int)-1) (by omega) (by omega),show((i:Int)-1).toNat=i-1 by omega];refine⟨λhg=>⟨rfl,by simp only [zG,decide_eq_true_eq] at hg;omega,by rw [bT];omega⟩,?_⟩;rw [C];refine Wk ?_
  refine⟨λ_=>⟨rfl,by omega,by rw [bT];omega⟩,?_⟩;rw [zA,hg];refine cO z ?_;rw [<-B]
  cases E:aAK l i with
  |true=>
   have e:false=q:=by rw [<-e];exact(eM f E).symm
   subst e;refine Wk ?_
   try subst e
   exact Lf
  |false=> refine Wk ?_;rw [eF (by omega)];refine⟨i+1,⟨by show i+1<=_;omega,by show bD (aAK l) (i+1)=true;simp only [bD,j,E];rfl⟩,?_,by show l.length- (i+1)<l.length-i;omega⟩;exact Vw []
 have f:i=l.length:=by simp at f;omega
 subst f;have e:true=q:=by rw [<-e];exact j.symm
 subst e;refine Wk ?_
 try subst e
 exact Lf
def pX(f:Int)(p:Pt):Bool:=p.frame != f
def oV(l:List Pt)(f:Int):List Pt:=bif kU l then l.filter (pX f) else l
theorem bPJ(l:List Pt)(f:Int)(E:kU l=true)(H:l.length<=100000):aM Tryz.prog 248 [] [.lst 5 false (aN l),.int .i64 f] (.lst 5 false (aN (oV l f))) []:=by
 have m:=aTJ l false H;rw [E] at m;unfold oV;rw [E,zct];refine cK Tryz.func248 ?_;refine cO m ?_;refine⟨Nat,λk=>k<=l.length,λk=>⟨[(0,⟨[],true,.lst 5 false (aN l)⟩),(1,⟨[],true,.int .i64 f⟩),(5,⟨[],true,.sl 0 0 ((l.take k).filter (pX f)).length⟩),(6,⟨[],true,.int .i64 (k:Int)⟩)],[(0,.row 5 (aN ((l.take k).filter (pX f))))],1⟩,λk=>l.length-k,⟨0,zN _,?_⟩,λk G=>?_⟩
 ·exact Vw [none]
 dsimp only at G⊢;have C:((l.take k).filter (pX f)).length<=100000:=by have :=List.length_filter_le (pX f) (l.take k);have :=List.length_take_le k l;omega
 refine Wk ?_;rw [bT];refine aC (λz=>?_) (λz=>?_)<;> try simp only [zK,zE,zM,zL,zT] at z
 ·have z:k<l.length:=by simp at z;omega
  have e:=tY (pX f) l k p0 z;have hg:=gH l k z;have B:((l.getD k p0).frame != f)=pX f (l.getD k p0):=rfl;generalize l.getD k p0=j at e hg B;generalize(l.take k).filter (pX f)=F at e C;refine Wk ?_;refine aG (⟨rfl,by omega,by rw [bT];omega⟩) ?_;rw [zA,hg];refine Wk ?_;rw [B]
  cases D:pX f j with
  |true=>
   rw [D,zct] at e;refine Wk ?_;refine aG (⟨rfl,by omega,by rw [bT];omega⟩) ?_;rw [zA,hg];refine Wk ?_;refine aG (bT F).symm (cA (by rw [bT];show((F.length+1:Nat):Int)<=_;omega) (by rw [bT];show(F.length+1)*32<=_;omega) ?_);refine Wk ?_;rw [eF (by omega)];refine⟨k+1,by show k+1<=_;omega,?_,by show l.length- (k+1)<l.length-k;omega⟩;dsimp only;rw [e];refine bU [some 2] rfl rfl ?_ rfl ?_ rfl ?_
   repeat' (first |exact trivial |rfl |exact .inl rfl |exact .inr rfl |exact id |exact zbc |apply And.intro)
   ·show aN F++ [j.c]=_;simp [aN]
   ·show(aN F).length+1=_;rw [bT,List.length_append];rfl
  |false=> rw [D,zcf] at e;refine Wk ?_;rw [eF (by omega)];refine⟨k+1,by show k+1<=_;omega,?_,by show l.length- (k+1)<l.length-k;omega⟩;dsimp only;rw [e];exact Vw [some 0]
 have z:k=l.length:=by simp at z;omega
 subst z;rw [List.take_length];refine Wk ?_;refine⟨[],trivial,rfl,trivial,rfl,?_⟩
 repeat' (first |exact trivial |rfl |exact .inl rfl |exact .inr rfl |exact id |exact zbc |apply And.intro)
 ·rw [bT];omega
 ·exact cF rfl (bT _)
def Dc.o2(c:Dc):List V:= [.sl 0 0 c.fl.length,.sl 1 0 c.fr.length,.lst 6 false (aK c.zo),.lst 3 false (aQ c.gr),.sl 2 0 c.ls.length,.sl 3 0 c.ck.length,.lst 5 false (aN c.pt)]
def Dc.ob2(c:Dc):List Sk.Obj:= [.row 15 (aX c.fl),.row 9 (aO c.fr),.row 3 (aU c.ls),.row 1 (aB c.ck)]
def Dc.gone(c:Dc)(n:Nat)(u:Us)(v:Int):Dc:= ⟨c.fl.set u.file (iG (c.fl.getD u.file aZ) (eH (c.fl.getD u.file aZ).E u.page (v,0))),c.fr.set n none,(eD c.zo c.zo ((n+1:Nat):Int)).1,(iK c.gr u.ten).1,c.ls.set u.ten (nF (c.ls.getD u.ten l0) ((n+1:Nat):Int)).1,c.ck,oV c.pt ((n+1:Nat):Int)⟩
theorem bGU(c:Dc)(n:Nat)(u:Us)(v:Int)(R:SmD c)(h:qF c n u)(hg:u.ten<c.gr.length)(ae:mY c.gr=true)(hz:fL c.zo)(hl:dM (c.ls.getD u.ten l0))(hp:kU c.pt=true)(af:c.pt.length<=100000):
 aM Tryz.prog 154 [] [.agg c.c,.int .i64 ((n+1:Nat):Int),.int .i64 v] (.agg (c.gone n u v).o2) (c.gone n u v).ob2:=by
 have ab:=aIV c R;have W:=bPJ c.pt ((n+1:Nat):Int) hp af;have Y:=bPK (c.ls.getD u.ten l0) ((n+1:Nat):Int) hl;have Z:=bPN c.gr u.ten hg ae;have aa:=bPO c.zo false ((n+1:Nat):Int) hz;have H:=aZS h.E h.sup u.page h.page v;have Q:bI (eH (c.fl.getD u.file aZ).E u.page (v,0)):=h.E.set (Nat.zero_lt_succ _) (λ_=>rfl);obtain⟨h1,h2,h3,h4,h5,h6,h7,h8,h9,ah,ai⟩:=h;obtain⟨D,m,G,gr,B,N,O⟩:=c;have al:=R.fr;have am:=R.ls;have ak:=R.fl;have aj:=R.ck;unfold Dc.gone Dc.o2 Dc.ob2
 dsimp only at *;have j:=cC m n h1;rw [h2] at j;have j:(aO m).getD n []=u.c:=j;have F:=iD D u.file h3;have T:=eC B u.ten h9;have z:=aC4 D u.file _ h3 h5 Q;rw [F] at z;have J:∀x:Ls,(aU B).set u.ten (aS 3 (B.getD u.ten l0).c 0 x.c)=aU (B.set u.ten x):=λx=>iE B u.ten x;have K:(aO m).set n (aS 9 u.c 0 fre.c)=aO (m.set n none):=by have :aS 9 u.c 0 fre.c=fre.c:=rfl;rw [this];unfold aO;rw [List.map_set];rfl
 generalize(eD G G ((n+1:Nat):Int)).1=ap at *;generalize(eD G G ((n+1:Nat):Int)).2=ze at *;generalize(iK gr u.ten).1=ag at *;generalize(iK gr u.ten).2=ge at *;generalize oV O ((n+1:Nat):Int)=ao at *;generalize D.getD u.file aZ=f at *;generalize B.getD u.ten l0=l at *;generalize(nF l ((n+1:Nat):Int)).2=le at *;generalize(nF l ((n+1:Nat):Int)).1=l2 at *;obtain⟨k0,k1,k2,k3,e⟩:=cH h5;obtain⟨q0,q1,q2,q3,e'⟩:=cH Q
 have ad:f.c=[.int .i64 f.dev,.int .i64 f.slot,.int .i64 (hgt f.E:Int),.lst k0 k1 k2,.int .i64 k3,.int .i64 (oS f.E 0 (4^hgt f.E):Nat),.int .i64 (f.size:Int),.int .i64 (f.blocks:Int),.int .i64 f.ec,.int .i64 f.ee,.int .i64 0,.int .i64 0,.int .i64 0,.int .i64 0,.int .i64 0]:=by unfold Df.c;rw [e];rfl
 rw [ad] at F z;rw [e'] at z;rw [e,e'] at H;rw [zD,zD,zD];rw [<-z,<-K,<-J];obtain⟨C,ac,⟨pb,pv,pd⟩,M,holds,rd,wr⟩:=u;dsimp only at *;have j:(aO m).getD n []=[.int .i64 (C:Int),.int .i64 (ac:Int),.str pb,.int .i64 (pv:Int),.int .i64 (pd:Int),.int .i64 (M:Int),.int .i64 (holds:Int),.int .i64 (rd:Int),.int .i64 (wr:Int)]:=j
 have e0:(Dc.mk D m G gr B N O).c=[.lst 15 false (aX D),.lst 9 false (aO m),.lst 6 false (aK G),.lst 3 false (aQ gr),.lst 3 false (aU B),.lst 1 false (aB N),.lst 5 false (aN O)]:=rfl;have e1:(Dc.mk D m G gr B N O).o=[.sl 0 0 D.length,.sl 1 0 m.length,.lst 6 false (aK G),.sl 2 0 gr.length,.sl 3 0 B.length,.sl 4 0 N.length,.lst 5 false (aN O)]:=rfl;have e2:(Dc.mk D m G gr B N O).ob=[.row 15 (aX D),.row 9 (aO m),.row 3 (aQ gr),.row 3 (aU B),.row 1 (aB N)]:=rfl
 rw [e0,e1,e2] at ab;rw [e0];refine cK Tryz.func154 ?_;refine Wk ?_;rw [bX,aP (n:=((n+1:Nat):Int)-1) (by omega) (by omega),show((n+1:Nat):Int)-1=(n:Int) by omega,show decide (9=9/\0<=(n:Int)/\(n:Int)< (m.length:Int))=true from zdt ⟨rfl,by omega,by omega⟩];rw [zA,j];refine Wk ?_;refine .inr ⟨λ_=>⟨[],_,_,_,ab,trivial,rfl,rfl,rfl,?_⟩,(by intro h;cases h)⟩
 refine cO W ?_;refine⟨λ_=>⟨rfl,by omega,by rw [bW];omega⟩,?_⟩;rw [zA,T];refine cO Y ?_;refine⟨λ_=>⟨by omega,by omega⟩,?_⟩;refine Wk ?_;rw [show 0+(M:Int).toNat=M by omega,T];refine⟨by rw [bW];omega,by omega,?_⟩;refine Wk2 Z aa ?_;refine⟨λ_=>⟨rfl,by omega,by rw [cP];omega⟩,?_⟩;rw [zA,F];refine cO H ?_;refine⟨λ_=>⟨by omega,by omega⟩,?_⟩;refine Wk ?_;rw [show 0+(C:Int).toNat=C by omega,F];refine⟨by rw [cP];omega,by omega,?_⟩;refine Wk ?_
 rw [aP (n:=((n+1:Nat):Int)-1) (by omega) (by omega),show((n+1:Nat):Int)-1=(n:Int) by omega,show decide (0<=(n:Int)/\(n:Int)< (m.length:Int))=true from zdt ⟨by omega,by omega⟩];refine Wk ?_;rw [show 0+(n:Int).toNat=n by omega,show decide (n< (aO m).length)=true from zdt (by rw [bX];exact h1),j];refine Wk ?_;exact⟨[some 3,some 4,some 6,some 7],Cl,rfl,Cl,rfl,Cl⟩
theorem bQS(c:Dc)(n:Int)(f:SmD c)(j:fK c n=false):aM Tryz.prog 43 [] [.agg c.c,.int .i64 n] (.tup [.agg c.c,.int .i64 2]) []:=by have e:=aBX c n f;rw [j] at e;obtain⟨z,B,E,gr,C,m,D⟩:=c;refine cK Tryz.func43 ?_;refine cO e ?_;exact Lf
def Dc.evi(c:Dc)(n:Nat)(u:Us):Dc:=
 let d:=c.gone n u (0- (c.ck.getD u.ten 0+1))
 ⟨d.fl,d.fr,d.zo,d.gr,d.ls,d.ck.set u.ten (min (c.ck.getD u.ten 0+1) 1000000),d.pt⟩
theorem bT2(c:Dc)(n:Nat)(u:Us)(J:SmD c)(h:qF c n u)(hg:u.ten<c.gr.length)(K:mY c.gr=true)(hz:fL c.zo)(hl:dM (c.ls.getD u.ten l0))(hp:kU c.pt=true)(M:c.pt.length<=100000)
 (W:u.ten<c.ck.length) (D:0<=c.ck.getD u.ten 0/\c.ck.getD u.ten 0<=1000000) (hi:iJ u=true) (hd:u.p.d=0):
 aM Tryz.prog 43 [] [.agg c.c,.int .i64 ((n+1:Nat):Int)] (.tup [.agg (c.evi n u).c,.int .i64 0]) []:=by
 have O:fK c ((n+1:Nat):Int)=true:=by unfold fK;have :=h.at_;rw [zdt (show(1:Int)<=((n+1:Nat):Int) by omega),zdt (show((n+1:Nat):Int)<=(c.fr.length:Int) by omega),show(((n+1:Nat):Int)-1).toNat=n by omega,h.get];rfl
 have G:=aBX c ((n+1:Nat):Int) J;rw [O] at G;have F:=bDR u;rw [hi] at F;have Q:=bTD _ D.1 D.2;have j:=bGU c n u (0- (c.ck.getD u.ten 0+1)) J h hg K hz hl hp M;have E:(c.gone n u (0- (c.ck.getD u.ten 0+1))).ck=c.ck:=rfl;unfold Dc.evi;generalize c.gone n u (0- (c.ck.getD u.ten 0+1))=g at j E⊢;obtain⟨h1,h2,h3,h4,h5,h6,h7,h8,h9,ad,ae⟩:=h;obtain⟨R,B,zo,gr,Y,ck,Z⟩:=c;obtain⟨aa,ab,ai,ac,ag,f,ah⟩:=g;have af:=J.fr;have T:=J.ck;dsimp only at *;subst E
 have m:=cC B n h1;rw [h2] at m;have m:(aO B).getD n []=u.c:=m;obtain⟨C,H,⟨pb,pv,pd⟩,e,holds,rd,wr⟩:=u;dsimp only at *;subst hd;have m:(aO B).getD n []=[.int .i64 (C:Int),.int .i64 (H:Int),.str pb,.int .i64 (pv:Int),.int .i64 0,.int .i64 (e:Int),.int .i64 (holds:Int),.int .i64 (rd:Int),.int .i64 (wr:Int)]:=m;have z:(aB f).getD e []=[.int .i64 (f.getD e 0)]:=by simp [aB,zC,W]
 have N:∀x:Int,(aB f).set e (aS 1 [.int .i64 (f.getD e 0)] 0 [.int .i64 x])=aB (f.set e x):=λx=>by have :aS 1 [V.int .i64 (f.getD e 0)] 0 [.int .i64 x]=[.int .i64 x]:=rfl;rw [this];unfold aB;rw [List.map_set]
 generalize f.getD e 0=w at *;have e0:(Dc.mk R B zo gr Y f Z).c=[.lst 15 false (aX R),.lst 9 false (aO B),.lst 6 false (aK zo),.lst 3 false (aQ gr),.lst 3 false (aU Y),.lst 1 false (aB f),.lst 5 false (aN Z)]:=rfl;rw [e0];refine cK Tryz.func43 ?_;refine cO G ?_;rw [bX,aP (n:=((n+1:Nat):Int)-1) (by omega) (by omega),show((n+1:Nat):Int)-1=(n:Int) by omega,show decide (9=9/\0<=(n:Int)/\(n:Int)< (B.length:Int))=true from zdt ⟨rfl,by omega,by omega⟩];rw [zA,m]
 refine cO F ?_;rw [aA,show decide (1=1/\0<=(e:Int)/\(e:Int)< (f.length:Int))=true from zdt ⟨rfl,by omega,by omega⟩,zA,z];refine cO Q ?_;unfold Dc.o2 Dc.ob2 at j;dsimp only at j;refine .inr ⟨λ_=>⟨[],_,_,_,j,trivial,rfl,rfl,rfl,?_⟩,(by intro h;cases h)⟩
 refine Wk ?_;refine⟨λ_=>⟨rfl,by omega,by rw [aA];omega⟩,?_⟩;rw [zA,z];refine Wk ?_;rw [aP (n:=w+1) (by omega) (by omega)];refine⟨λ_=>⟨by omega,by omega⟩,?_⟩;refine Wk ?_;rw [show 0+(e:Int).toNat=e by omega,z];refine⟨by rw [aA];omega,by omega,?_⟩;refine Wk ?_;refine⟨[],trivial,rfl,trivial,rfl,?_⟩
 try subst W
 repeat' (first |exact trivial |rfl |exact .inl rfl |exact .inr rfl |exact id |exact zbc |apply And.intro)
 all_goals first
  |exact cF rfl (cP _)
  |exact cF rfl (bX _)
  |exact cF rfl (aL _)
  |exact cF rfl (bW _)
  |exact cF rfl (aA _)
  | (rw [cP];omega)
  | (rw [bX];omega)
  | (rw [aL];omega)
  | (rw [bW];omega)
  | (rw [aA];omega)
  |exact cF (N _) (by rw [zD];exact aA _)
  | (rw [zD,aA];omega)
theorem bQR(c:Dc)(n:Nat)(u:Us)(K:SmD c)(Y:n<c.fr.length)(h2:c.fr.getD n none=some u)(hi:(iJ u&&decide (u.p.d=0))=false):
 aM Tryz.prog 43 [] [.agg c.c,.int .i64 ((n+1:Nat):Int)] (.tup [.agg c.c,.int .i64 7]) []:=by
 have D:fK c ((n+1:Nat):Int)=true:=by unfold fK;rw [zdt (show(1:Int)<=((n+1:Nat):Int) by omega),zdt (show((n+1:Nat):Int)<=(c.fr.length:Int) by omega),show(((n+1:Nat):Int)-1).toNat=n by omega,h2];rfl
 have m:=aBX c ((n+1:Nat):Int) K;rw [D] at m;have E:=bDR u;obtain⟨J,z,W,gr,M,G,O⟩:=c;have Z:=K.fr;dsimp only at *;have e:=cC z n Y;rw [h2] at e;have e:(aO z).getD n []=u.c:=e;obtain⟨f,j,⟨N,Q,F⟩,B,holds,R,T⟩:=u;dsimp only at *;have e:(aO z).getD n []=[.int .i64 (f:Int),.int .i64 (j:Int),.str N,.int .i64 (Q:Int),.int .i64 (F:Int),.int .i64 (B:Int),.int .i64 (holds:Int),.int .i64 (R:Int),.int .i64 (T:Int)]:=e
 have H:(Dc.mk J z W gr M G O).c=[.lst 15 false (aX J),.lst 9 false (aO z),.lst 6 false (aK W),.lst 3 false (aQ gr),.lst 3 false (aU M),.lst 1 false (aB G),.lst 5 false (aN O)]:=rfl;rw [H];rw [H] at m;refine cK Tryz.func43 ?_;refine cO m ?_;rw [bX,aP (n:=((n+1:Nat):Int)-1) (by omega) (by omega),show((n+1:Nat):Int)-1=(n:Int) by omega,show decide (9=9/\0<=(n:Int)/\(n:Int)< (z.length:Int))=true from zdt ⟨rfl,by omega,by omega⟩];rw [zA,e];refine cO E ?_
 cases C:iJ ⟨f,j,⟨N,Q,F⟩,B,holds,R,T⟩ with
 |false=> refine Wk ?_;exact Lf
 |true=> rw [C,Bool.true_and,zdn] at hi;refine Wk ?_;rw [show((F:Int) != 0)=true from bne_iff_ne.2 (by omega)];refine Wk ?_;exact Lf
structure OkF(f:Df):Prop where
 E:bI f.E
 sup:Sup f.E
 lo:∀p,-1000001<=(f.E p).1
 size:f.size<=128
 blocks:f.blocks<256
 ec:0<=f.ec/\f.ec<=1000000
 ee:(f.ec=0↔f.ee=0)
structure OkU(c:Dc)(n:Nat)(u:Us):Prop where
 file:u.file<c.fl.length
 page:u.page<8
 pg:fQ u.p
 ten:u.ten<c.gr.length
 holds:u.holds<=255
 rd:u.rd<4
 wr:u.wr<4
 val:((c.fl.getD u.file aZ).E u.page).1=((n+1:Nat):Int)
def tD(l:Ls)(x:Int):Prop:=x∈l.A\/x∈l.I
structure Ok(c:Dc):Prop where
 nf:c.fl.length<=3
 nr:c.fr.length<=64
 ng:c.gr.length<=4
 nl:c.ls.length=c.gr.length
 nk:c.ck.length=c.gr.length
 file:∀f,f<c.fl.length->OkF (c.fl.getD f aZ)
 use:∀n u,n<c.fr.length->c.fr.getD n none=some u->OkU c n u
 ent:∀f p,f<c.fl.length->0< ((c.fl.getD f aZ).E p).1->∃n u,n<c.fr.length/\((c.fl.getD f aZ).E p).1=((n+1:Nat):Int)/\c.fr.getD n none=some u/\u.file=f/\u.page=p
 zone:bB c.zo=true
 free:∀z∈c.zo,∀x∈z.free,∃n,n<c.fr.length/\x=((n+1:Nat):Int)/\c.fr.getD n none=none
 gr:mY c.gr=true
 ls:∀t,t<c.ls.length->dU (c.ls.getD t l0)=true
 mem:∀t x,t<c.ls.length->tD (c.ls.getD t l0) x->∃n u,n<c.fr.length/\x=((n+1:Nat):Int)/\c.fr.getD n none=some u/\u.ten=t
 ck:∀t,0<=c.ck.getD t 0/\c.ck.getD t 0<=1000000
 pt:kU c.pt=true
theorem aZL {α:Type} (f:α->Int)(n:Nat):∀ {l:List α},(l.map f).Nodup->(∀x∈l,0<=f x/\f x<n)->l.length<=n:=by intro l e h2;have :=vS n (l:=l.map f) (lo:=0) e (λx j=>by obtain⟨y,m,rfl⟩:=List.mem_map.1 j;have :=h2 y m;omega);simpa using this
def dZ(p:Pt):Int:=p.proc*64+p.page
theorem aNH {l:List Pt} (h:kU l=true):l.length<=512:=by
 have B:∀i,i<l.length->eN (l.getD i p0)=true/\(0<i->eX (l.getD (i-1) p0) (l.getD i p0)=true):=λi e=>by
  have :=iV h e;unfold aAK at this
  cases f:eN (l.getD i p0) with
  |false=>rw [f] at this;cases this
  |true=> rw [f,zF,zcf] at this;refine⟨rfl,λh0=>?_⟩;rw [zdt (show 0< (i:Int) by omega),zct] at this;simpa using this
 have z:∀i,i<l.length->(0<=(l.getD i p0).proc/\(l.getD i p0).proc<8)/\0<=(l.getD i p0).page/\(l.getD i p0).page<64:=λi e=>by have :=(B i e).1;unfold eN at this;simp only [zE,zG,decide_eq_true_eq] at this;omega
 have j:∀i,i+1<l.length->(l.map dZ).getD i 0< (l.map dZ).getD (i+1) 0:=λi e=>by
  have f:=(B (i+1) e).2 (by omega);have h2:=z i (by omega);have G:=z (i+1) e;rw [zS] at f;have e1:(l.map dZ).getD i 0=dZ (l.getD i p0):=by simp [zC,show i<l.length by omega]
  have C:(l.map dZ).getD (i+1) 0=dZ (l.getD (i+1) p0):=by simp [zC,e]
  rw [e1,C];unfold eX at f;unfold dZ
  by_cases a:(l.getD i p0).proc< (l.getD (i+1) p0).proc
  ·omega
  ·rw [zdf a,zcf] at f
   by_cases b:(l.getD i p0).proc=(l.getD (i+1) p0).proc
   ·rw [zbe.2 b,zct,decide_eq_true_eq] at f;omega
   ·rw [show((l.getD i p0).proc==(l.getD (i+1) p0).proc)=false from zbn.2 b] at f;cases f
 have m:=aQD (l:=l.map dZ) (λi e=>j i (by simpa using e));refine aZL dZ 512 (m.imp λh=>by omega) λx F=>?_;obtain⟨i,e,rfl⟩:=zQ F;have h5:=z i e;have D:l.getD i p0=l[i]:=by simp [zC,e]
 rw [D] at h5;have E:dZ l[i]=l[i].proc*64+l[i].page:=rfl;generalize l[i]=y at *;rw [E];omega
theorem Ok.sm {c:Dc} (h:Ok c):SmD c:=⟨by have :=h.nf;omega,h.nr,h.ng,by rw [h.nl];exact h.ng,by rw [h.nk];exact h.ng⟩
theorem Ok.smZ {c:Dc} (h:Ok c):fL c.zo:=gO h.zone
theorem Ok.smL {c:Dc} (h:Ok c)(t:Nat):dM (c.ls.getD t l0):=by
 by_cases e:t<c.ls.length
 ·exact((bF _).1 (h.ls t e)).small
 ·rw [zC,zP (zI e)];exact⟨zN _,zN _,zN _⟩
theorem Ok.ptl {c:Dc} (h:Ok c):c.pt.length<=100000:=by have :=aNH h.pt;omega
theorem Ok.good {c:Dc} (h:Ok c) {n:Nat} {u:Us} (e:n<c.fr.length)(j:c.fr.getD n none=some u):qF c n u:=by have k:=h.use n u e j;have f:=h.file _ k.file;exact⟨e,j,k.file,by have :=k.page;omega,f.E,f.sup,by rw [k.val];omega,k.pg,by rw [h.nl];exact k.ten,k.rd,k.wr⟩
def lO(u:Us):Nat×Nat×Nat:=(u.file,u.page,u.ten)
theorem Ok.same {c d:Dc} (h:Ok c)(M:d.fl.length=c.fl.length)(O:∀f p,((d.fl.getD f aZ).E p).1=((c.fl.getD f aZ).E p).1)
 (hF:∀f,f<c.fl.length->OkF (d.fl.getD f aZ)) (C:d.fr.length=c.fr.length) (T:∀n,(d.fr.getD n none).map lO=(c.fr.getD n none).map lO)
 (hU:∀n u,n<c.fr.length->d.fr.getD n none=some u->fQ u.p/\u.holds<=255/\u.rd<4/\u.wr<4) (hz:d.zo=c.zo) (hg:d.gr=c.gr)
 (B:d.ls.length=c.ls.length) (H:∀t,t<c.ls.length->dU (d.ls.getD t l0)=true) (R:∀t x,tD (d.ls.getD t l0) x->tD (c.ls.getD t l0) x)
 (J:d.ck=c.ck) (W:kU d.pt=true):Ok d:=by
 have F:∀n u,d.fr.getD n none=some u->∃v,c.fr.getD n none=some v/\lO v=lO u:=λn u D=>by
  have :=T n;rw [D] at this
  cases j:c.fr.getD n none with
  |none=>rw [j] at this;cases this
  |some v=>rw [j] at this;exact⟨v,rfl,by injection this with this;exact this.symm⟩
 have m:∀n u,c.fr.getD n none=some u->∃v,d.fr.getD n none=some v/\lO v=lO u:=λn u D=>by
  have :=T n;rw [D] at this
  cases j:d.fr.getD n none with
  |none=>rw [j] at this;cases this
  |some v=>rw [j] at this;exact⟨v,rfl,by injection this with this⟩
 refine⟨by rw [M];exact h.nf,by rw [C];exact h.nr,by rw [hg];exact h.ng,by rw [B,hg];exact h.nl,by rw [J,hg];exact h.nk,λf Q=>hF f (by rw [<-M];exact Q),λn u hn D=>?_,λf p Q hp=>?_,by rw [hz];exact h.zone,λz aa x Z=>?_,by rw [hg];exact h.gr,λt Y=>H t (by rw [<-B];exact Y),λt x Y Z=>?_,by rw [J];exact h.ck,W⟩
 ·obtain⟨v,j,e⟩:=F n u D;have N:=h.use n v (by rw [<-C];exact hn) j;obtain⟨g1,g2,g3,g4⟩:=hU n u (by rw [<-C];exact hn) D;simp only [lO,Prod.mk.injEq] at e;obtain⟨e1,G,K⟩:=e;exact⟨by rw [M,<-e1];exact N.file,by rw [<-G];exact N.page,g1,by rw [hg,<-K];exact N.ten,g2,g3,g4,by rw [O,<-e1,<-G];exact N.val⟩
 ·rw [O] at hp;obtain⟨n,u,k1,k2,k3,k4,k5⟩:=h.ent f p (by rw [<-M];exact Q) hp;obtain⟨v,j,e⟩:=m n u k3;simp only [lO,Prod.mk.injEq] at e;obtain⟨e1,G,K⟩:=e;exact⟨n,v,by rw [C];exact k1,by rw [O];exact k2,j,by rw [e1];exact k4,by rw [G];exact k5⟩
 ·obtain⟨n,k1,k2,k3⟩:=h.free z (by rw [<-hz];exact aa) x Z;refine⟨n,by rw [C];exact k1,k2,?_⟩;have :=T n;rw [k3] at this
  cases j:d.fr.getD n none with
  |none=>rfl
  |some v=>rw [j] at this;cases this
 ·obtain⟨n,u,k1,k2,k3,k4⟩:=h.mem t x (by rw [<-B];exact Y) (R t x Z);obtain⟨v,j,e⟩:=m n u k3;simp only [lO,Prod.mk.injEq] at e;obtain⟨e1,G,K⟩:=e;exact⟨n,v,by rw [C];exact k1,k2,j,by rw [K];exact k4⟩
theorem aH {α:Type} (l:List α)(k:Nat)(x d:α)(h:k<l.length):(l.set k x).getD k d=x:=by simp [zC,h]
theorem getD_set_ne {α:Type} (l:List α) {k j:Nat} (x d:α)(h:j≠k):(l.set k x).getD j d=l.getD j d:=by simp [zC,Ne.symm h]
theorem eG {α:Type} (l:List α) {k:Nat} (x:α)(h:l.length<=k):l.set k x=l:=by
 induction l generalizing k with
 |nil=>rfl
 |cons a l e=>
  cases k with
  |zero=>simp at h
  |succ k=>rw [List.set_cons_succ,e (by simpa using h)]
theorem aAZ(f:Df)(E:dJ):(iG f E).E=E:=rfl
theorem OkF.iG {f:Df} (h:OkF f) {E:dJ} (e:bI E)(h2:Sup E)(j:∀p,-1000001<=(E p).1):OkF (iG f E):=⟨e,h2,j,h.size,h.blocks,h.ec,h.ee⟩
theorem aR4(E:dJ)(u:Us)(p:Nat):(mE E u p).1=(E p).1:=by unfold mE;rw [uJ,uJ]
theorem Ok.put {c:Dc} (h:Ok c) {n:Nat} {u u':Us} (D:n<c.fr.length)(H:c.fr.getD n none=some u)(G:lO u'=lO u)(O:fQ u'.p)(N:u'.holds<=255)(Q:u'.rd<4)(R:u'.wr<4):Ok (c.put n u'):=by
 have J:=h.use n u D H;simp only [lO,Prod.mk.injEq] at G;obtain⟨e1,F,K⟩:=G;have z:u'.file<c.fl.length:=by rw [e1];exact J.file
 have C:=h.file _ z;have B:=bGH (u:=u') C.E C.sup (by rw [e1,F,J.val];omega);refine h.same (by simp [Dc.put,Dc.mark,Dc.setU]) (λf p=>?_) (λf M=>?_) (by simp [Dc.put,Dc.mark,Dc.setU]) (λm=>?_) (λm v B j=>?_) rfl rfl rfl h.ls (λ_ _ x=>x) rfl h.pt
 ·show(((c.fl.set u'.file (iG (c.fl.getD u'.file aZ) (mE (c.fl.getD u'.file aZ).E u'))).getD f aZ).E p).1=_
  by_cases e:f=u'.file
  ·subst e;rw [aH _ _ _ _ z,aAZ,aR4]
  ·rw [getD_set_ne _ _ _ e]
 ·show OkF ((c.fl.set u'.file (iG (c.fl.getD u'.file aZ) (mE (c.fl.getD u'.file aZ).E u'))).getD f aZ)
  by_cases e:f=u'.file
  ·subst e;rw [aH _ _ _ _ z];exact C.iG B.1 B.2 (λp=>by rw [aR4];exact C.lo p)
  ·rw [getD_set_ne _ _ _ e];exact h.file f M
 ·show((c.fr.set n (some u')).getD m none).map lO=_
  by_cases e:m=n
  ·subst e;rw [aH _ _ _ _ D,H];simp [lO,e1,F,K]
  ·rw [getD_set_ne _ _ _ e]
 ·have j:(c.fr.set n (some u')).getD m none=some v:=j
  by_cases e:m=n
  ·subst e;rw [aH _ _ _ _ D] at j;injection j with j;subst j;exact⟨O,N,Q,R⟩
  ·rw [getD_set_ne _ _ _ e] at j;have :=h.use m v B j;exact⟨this.pg,this.holds,this.rd,this.wr⟩
theorem aUO {l:Ls} (B:dU l=true)(f:Int):dU (nH l f).1=true/\∀x,tD (nH l f).1 x->tD l x:=by
 have j:=(bF l).1 B;unfold nH;rw [B,zF,zcf]
 cases M:cI f with
 |false=>exact⟨B,λ_ h=>h⟩
 |true=>
  rw [zF,zcf]
  cases h2:mL l f with
  |false=>exact⟨B,λ_ h=>h⟩
  |true=>
   rw [zF,zcf];have z:f∈l.A++l.I:=by simpa [mL] using h2
   have F:=j.known f z
   cases G:decide (f∈l.R) with
   |false=>
    rw [Bool.not_false,zct];have C:f∉l.R:=by simpa using G
    refine⟨(bF _).2 ⟨j.nodup,j.known,?_,λx e=>?_⟩,λ_ h=>h⟩
    ·have H:lS 1 65 l.R:=⟨j.asc,λx e=>by have :=j.known x (j.sub x e);omega⟩;exact(H.ins ⟨F.1,by omega⟩ C).asc
    ·rcases aHK.1 e with rfl |e
     ·exact z
     ·exact j.sub x e
   |true=>
    rw [zF,zcf]
    cases h4:decide (f∈l.I) with
    |false=>exact⟨B,λ_ h=>h⟩
    |true=>
     rw [zct];have m:f∈l.I:=by simpa using h4
     have E:=j.notA m;refine⟨(bF _).2 ⟨?_,λx e=>?_,aMQ j.asc f,λx e=>?_⟩,λx e=>?_⟩
     ·show((f::wo l.A f)++wo l.I f).Nodup;rw [sQ E];have D:=List.nodup_append.1 j.nodup;rw [zO,List.nodup_cons];refine⟨λe=>?_,List.nodup_append.2 ⟨D.1,aIN D.2.1 f,λa J b K=>D.2.2 a J b (eL.1 K).1⟩⟩;rcases List.mem_append.1 e with e |e
      ·exact E e
      ·exact(eL.1 e).2 rfl
     ·have e:x∈(f::wo l.A f)++wo l.I f:=e;rw [zO,zR,zH,eL,eL] at e;rcases e with rfl | ⟨e,_⟩| ⟨e,_⟩
      ·exact F
      ·exact j.known x (List.mem_append_left _ e)
      ·exact j.known x (List.mem_append_right _ e)
     ·have e:x∈wo l.R f:=e;rw [eL] at e;show x∈(f::wo l.A f)++wo l.I f;rw [zO,zR,zH,eL,eL];rcases List.mem_append.1 (j.sub x e.1) with h |h
      ·exact .inr (.inl ⟨h,e.2⟩)
      ·exact .inr (.inr ⟨h,e.2⟩)
     ·unfold tD at e⊢;dsimp only at e;rw [zR,eL,eL] at e;rcases e with (rfl |h)|h
      ·exact .inr m
      ·exact .inl h.1
      ·exact .inr h.1
theorem Ok.acc {c:Dc} (h:Ok c)(n t:Nat):Ok (c.acc n t):=by
 refine h.same rfl (λ_ _=>rfl) h.file rfl (λ_=>rfl) (λm v z B=>?_) rfl rfl (by simp [Dc.acc]) (λs j=>?_) (λs x f=>?_) rfl h.pt
 ·have :=h.use m v z B;exact⟨this.pg,this.holds,this.rd,this.wr⟩
 ·show dU ((c.ls.set t (nH (c.ls.getD t l0) ((n+1:Nat):Int)).1).getD s l0)=true
  by_cases e:s=t
  ·subst e;rw [aH _ _ _ _ j];exact(aUO (h.ls _ j) _).1
  ·rw [getD_set_ne _ _ _ e];exact h.ls s j
 ·have f:tD ((c.ls.set t (nH (c.ls.getD t l0) ((n+1:Nat):Int)).1).getD s l0) x:=f
  by_cases e:s=t
  ·subst e
   by_cases j:s<c.ls.length
   ·rw [aH _ _ _ _ j] at f;exact(aUO (h.ls _ j) _).2 x f
   ·rw [eG _ _ (zI j)] at f;exact f
  ·rw [getD_set_ne _ _ _ e] at f;exact f
theorem vM {a b:Pt} (j:eN a=true)(h2:eN b=true):eX a b=true↔dZ a<dZ b:=by
 unfold eN at j h2;simp only [zE,zG,decide_eq_true_eq] at j h2;unfold eX dZ
 by_cases e:a.proc<b.proc
 ·rw [zdt e,zct];exact⟨λ_=>by omega,λ_=>rfl⟩
 ·rw [zdf e,zcf]
  by_cases f:a.proc=b.proc
  ·rw [zbe.2 f,zct,decide_eq_true_eq];omega
  ·rw [show(a.proc==b.proc)=false from zbn.2 f,zcf];exact⟨(λh=>by cases h),(λh=>by omega)⟩
theorem aO5(l:List Pt)(i:Nat)(h:i<l.length):l.getD i p0=l[i]:=by simp [zC,h]
theorem kY(l:List Pt):kU l=true↔(∀x∈l,eN x=true)/\l.Pairwise (λa b=>dZ a<dZ b):=by
 constructor
 ·intro h
  have z:∀i,i<l.length->eN (l.getD i p0)=true/\(0<i->eX (l.getD (i-1) p0) (l.getD i p0)=true):=λi f=>by
   have :=iV h f;unfold aAK at this
   cases j:eN (l.getD i p0) with
   |false=>rw [j] at this;cases this
   |true=> rw [j,zF,zcf] at this;refine⟨rfl,λh0=>?_⟩;rw [zdt (show 0< (i:Int) by omega),zct] at this;simpa using this
  refine⟨λx D=>?_,?_⟩
  ·obtain⟨i,f,rfl⟩:=zQ D;rw [<-aO5 l i f];exact(z i f).1
  ·have m:∀i,i+1<l.length->(l.map dZ).getD i 0< (l.map dZ).getD (i+1) 0:=λi f=>by
    have j:=(z (i+1) f).2 (by omega);rw [zS,vM (z i (by omega)).1 (z _ f).1] at j;have e1:(l.map dZ).getD i 0=dZ (l.getD i p0):=by simp [zC,show i<l.length by omega]
    have B:(l.map dZ).getD (i+1) 0=dZ (l.getD (i+1) p0):=by simp [zC,f]
    rw [e1,B];exact j
   exact List.pairwise_map.1 (aQD (l:=l.map dZ) (λi f=>m i (by simpa using f)))
 ·intro⟨j,h2⟩
  have :∀n,n<=l.length->bD (aAK l) n=true:=by
   intro n
   induction n with
   |zero=>intro _;rfl
   |succ n E=>
    intro F
    have C:aAK l n=false:=by
     unfold aAK;rw [aO5 l n (by omega),j _ (zJ (by omega)),zF,zcf]
     by_cases e:0<n
     ·rw [zdt (show 0< (n:Int) by omega),zct,aO5 l (n-1) (by omega),(vM (j _ (zJ (by omega))) (j _ (zJ (by omega)))).2 (List.pairwise_iff_getElem.1 h2 (n-1) n (by omega) (by omega) (by omega))];rfl
     ·rw [zdf (show ¬0< (n:Int) by omega),zcf]
    simp only [bD,E (by omega),C];rfl
  exact this _ (Nat.le_refl _)
theorem aY8 {l:List Pt} (h:kU l=true)(f:Int):kU (oV l f)=true:=by unfold oV;rw [h,zct,kY];have :=(kY l).1 h;exact⟨λx e=>this.1 x (List.mem_filter.1 e).1,this.2.sublist List.filter_sublist⟩
theorem aSG {g:List Gr} (h:mY g=true) {t:Nat} {n:Int} (m:0<=n)(z:n<=64):mY (aNG g t n)=true:=by
 simp only [mY,zG] at h⊢;rw [tN];refine⟨sG λi j=>?_,h.2⟩;have f:=iV h.1 j;unfold nS aNG at *
 by_cases e:i=t
 ·subst e;rw [aH _ _ _ _ j];simp only [aIR,Bool.or_eq_false_iff,zdn] at f⊢;omega
 ·rw [getD_set_ne _ _ _ e];exact f
theorem bBK {g:List Gr} (h:mY g=true) {t:Nat} (f:t<g.length):mY (iK g t).1=true/\(iK g t).1.length=g.length:=by
 have j:=aGW h f;unfold iK
 by_cases e:(g.getD t g0).chg<1
 ·rw [zdt e,zct];exact⟨h,rfl⟩
 ·rw [zdf e,zcf];exact⟨aSG h (by omega) (by omega),tN _ _ _⟩
theorem aVT {l:List Zn} (h:bB l=true)(f:Int):∀z∈(eD l l f).1,∀x∈z.free,x=f\/∃z∈l,x∈z.free:=by
 have m:=vI (base:=l) (f:=f) h;generalize eD l l f=q at m;intro z j x e
 cases m with
 |range _=>exact .inr ⟨z,j,e⟩
 |free _ _ _ _=>exact .inr ⟨z,j,e⟩
 |ok i B C D=>
  rcases List.mem_or_eq_of_mem_set j with j |rfl
  ·exact .inr ⟨z,j,e⟩
  ·rcases aHK.1 e with rfl |e
   ·exact .inl rfl
   ·exact .inr ⟨_,zJ B,e⟩
theorem aU2 {l:Ls} (z:dU l=true) {f:Int} (E:cI f=true):dU (nF l f).1=true/\∀x,tD (nF l f).1 x->tD l x/\x≠f:=by
 have m:=(bF l).1 z;unfold nF;rw [z,zF,zcf,E,zF,zcf]
 cases h2:mL l f with
 |false=>
  rw [Bool.not_false,zct];refine⟨z,λx j=>⟨j,λe=>?_⟩⟩;subst e;have :mL l x=true:=by unfold mL;rcases j with h |h <;> simp [h]
  rw [h2] at this;cases this
 |true=>
  rw [zF,zcf];have B:=List.nodup_append.1 m.nodup;refine⟨(bF _).2 ⟨List.nodup_append.2 ⟨aIN B.1 f,aIN B.2.1 f,λa C b D=>B.2.2 a (eL.1 C).1 b (eL.1 D).1⟩,λx j=>?_,aMQ m.asc f,λx j=>?_⟩,λx j=>?_⟩
  ·have j:x∈wo l.A f++wo l.I f:=j;rw [zH,eL,eL] at j;exact m.known x (by rw [zH];rcases j with h |h;exact .inl h.1;exact .inr h.1)
  ·have j:x∈wo l.R f:=j;rw [eL] at j;show x∈wo l.A f++wo l.I f;rw [zH,eL,eL];rcases List.mem_append.1 (m.sub x j.1) with h |h
   ·exact .inl ⟨h,j.2⟩
   ·exact .inr ⟨h,j.2⟩
  ·unfold tD at j⊢;dsimp only at j;rw [eL,eL] at j;rcases j with h |h
   ·exact⟨.inl h.1,h.2⟩
   ·exact⟨.inr h.1,h.2⟩
theorem Ok.clk {c:Dc} (h:Ok c)(t:Nat) {x:Int} (j:0<=x)(m:x<=1000000):Ok ⟨c.fl,c.fr,c.zo,c.gr,c.ls,c.ck.set t x,c.pt⟩:=by
 refine⟨h.nf,h.nr,h.ng,h.nl,by rw [zD];exact h.nk,h.file,λn u z B=>?_,h.ent,h.zone,h.free,h.gr,h.ls,h.mem,λs=>?_,h.pt⟩
 ·have k:=h.use n u z B;exact⟨k.file,k.page,k.pg,k.ten,k.holds,k.rd,k.wr,k.val⟩
 ·by_cases e:s=t
  ·subst e
   by_cases f:s<c.ck.length
   ·rw [aH _ _ _ _ f];exact⟨j,m⟩
   ·rw [eG _ _ (zI f)];exact h.ck s
  ·rw [getD_set_ne _ _ _ e];exact h.ck s
theorem Ok.gone {c:Dc} (h:Ok c) {n:Nat} {u:Us} (W:n<c.fr.length)(Y:c.fr.getD n none=some u) {v:Int} (hv:v<=0)(Z: -1000001<=v):Ok (c.gone n u v):=by
 have N:=h.use n u W Y;have R:=h.file _ N.file;have M:cI ((n+1:Nat):Int)=true:=(nL _).2 (by have :=h.nr;omega);have ac:∀z∈(eD c.zo c.zo ((n+1:Nat):Int)).1,∀x∈z.free,x=((n+1:Nat):Int)\/∃z∈c.zo,x∈z.free:=aVT h.zone _;have G:=bBK h.gr N.ten
 have hE:∀f p,(((c.gone n u v).fl.getD f aZ).E p).1=if f=u.file/\p=u.page then v else((c.fl.getD f aZ).E p).1:=λf p=>by
  show(((c.fl.set u.file (iG (c.fl.getD u.file aZ) (eH (c.fl.getD u.file aZ).E u.page (v,0)))).getD f aZ).E p).1=_
  by_cases e:f=u.file
  ·subst e;rw [aH _ _ _ _ N.file,aAZ]
   by_cases B:p=u.page
   ·subst B;rw [fV,if_pos ⟨rfl,rfl⟩]
   ·rw [eZ B,if_neg (λh=>B h.2)]
  ·rw [getD_set_ne _ _ _ e,if_neg (λh=>e h.1)]
 have D:∀m,(c.gone n u v).fr.getD m none=if m=n then none else c.fr.getD m none:=λm=>by
  show(c.fr.set n none).getD m none=_
  by_cases e:m=n
  ·subst e;rw [aH _ _ _ _ W,if_pos rfl]
  ·rw [getD_set_ne _ _ _ e,if_neg e]
 have j:(c.gone n u v).fr.length=c.fr.length:=zD ..;have C:(c.gone n u v).fl.length=c.fl.length:=zD ..;have H:(c.gone n u v).ls.length=c.ls.length:=zD ..
 refine⟨by rw [C];exact h.nf,by rw [j];exact h.nr,by show(iK c.gr u.ten).1.length<=4;rw [G.2];exact h.ng,by show(c.gone n u v).ls.length=(iK c.gr u.ten).1.length;rw [H,G.2];exact h.nl,by show c.ck.length=(iK c.gr u.ten).1.length;rw [G.2];exact h.nk,λf T=>?_,λm w hm O=>?_,λf p T Q=>?_,aO7 (fB.refl _) h.zone,λz hz x K=>?_,G.1,λt F=>?_,λt x F K=>?_,h.ck,aY8 h.pt _⟩
 ·show OkF ((c.fl.set u.file (iG (c.fl.getD u.file aZ) (eH (c.fl.getD u.file aZ).E u.page (v,0)))).getD f aZ)
  by_cases e:f=u.file
  ·subst e;rw [aH _ _ _ _ N.file];refine R.iG (R.E.set (Nat.zero_lt_succ _) (λ_=>rfl)) (R.sup.set (by have :=N.page;omega) _) (λp=>?_)
   by_cases B:p=u.page
   ·subst B;rw [fV];exact Z
   ·rw [eZ B];exact R.lo p
  ·rw [getD_set_ne _ _ _ e];exact h.file f (by rw [<-C];exact T)
 ·rw [D] at O
  by_cases e:m=n
  ·rw [if_pos e] at O;cases O
  ·rw [if_neg e] at O;have J:=h.use m w (by rw [<-j];exact hm) O;refine⟨by rw [C];exact J.file,J.page,J.pg,by show w.ten< (iK c.gr u.ten).1.length;rw [G.2];exact J.ten,J.holds,J.rd,J.wr,?_⟩;rw [hE,if_neg]
   ·exact J.val
   ·intro⟨e1,B⟩;have :=J.val;rw [e1,B,N.val] at this;omega
 ·rw [hE] at Q⊢
  by_cases e:f=u.file/\p=u.page
  ·rw [if_pos e] at Q;omega
  ·rw [if_neg e] at Q⊢;obtain⟨m,w,k1,k2,k3,k4,k5⟩:=h.ent f p (by rw [<-C];exact T) Q;refine⟨m,w,by rw [j];exact k1,k2,?_,k4,k5⟩;rw [D,if_neg]
   ·exact k3
   ·intro B;subst B;rw [Y] at k3;injection k3 with k3
    subst k3;exact e ⟨k4.symm,k5.symm⟩
 ·rcases ac z hz x K with rfl | ⟨z',ab,aa⟩
  ·exact⟨n,by rw [j];exact W,rfl,by rw [D,if_pos rfl]⟩
  ·obtain⟨m,k1,k2,k3⟩:=h.free z' ab x aa;refine⟨m,by rw [j];exact k1,k2,?_⟩;rw [D];split
   ·rfl
   ·exact k3
 ·have F:t<c.ls.length:=by rw [<-H];exact F
  show dU ((c.ls.set u.ten (nF (c.ls.getD u.ten l0) ((n+1:Nat):Int)).1).getD t l0)=true
  by_cases e:t=u.ten
  ·subst e;rw [aH _ _ _ _ F];exact(aU2 (h.ls _ F) M).1
  ·rw [getD_set_ne _ _ _ e];exact h.ls t F
 ·have F:t<c.ls.length:=by rw [<-H];exact F
  have K:tD ((c.ls.set u.ten (nF (c.ls.getD u.ten l0) ((n+1:Nat):Int)).1).getD t l0) x:=K
  by_cases e:t=u.ten
  ·subst e;rw [aH _ _ _ _ F] at K;obtain⟨g1,g2⟩:=(aU2 (h.ls _ F) M).2 x K;obtain⟨m,w,k1,k2,k3,k4⟩:=h.mem _ x F g1;refine⟨m,w,by rw [j];exact k1,k2,?_,k4⟩;rw [D,if_neg]
   ·exact k3
   ·intro B;subst B;exact g2 k2
  ·rw [getD_set_ne _ _ _ e] at K;obtain⟨m,w,k1,k2,k3,k4⟩:=h.mem t x F K;refine⟨m,w,by rw [j];exact k1,k2,?_,k4⟩;rw [D,if_neg]
   ·exact k3
   ·intro B;subst B;rw [Y] at k3;injection k3 with k3
    subst k3;exact e k4.symm
theorem Ok.evi {c:Dc} (h:Ok c) {n:Nat} {u:Us} (e:n<c.fr.length)(f:c.fr.getD n none=some u):Ok (c.evi n u):=by have j:=h.ck u.ten;exact(h.gone e f (by omega) (by omega)).clk _ (by omega) (by omega)
theorem aRX(c:Dc)(n:Int):fK c n=false\/∃(m:Nat) (u:Us),n=((m+1:Nat):Int)/\m<c.fr.length/\c.fr.getD m none=some u:=by
 cases h:fK c n with
 |false=>exact .inl rfl
 |true=> refine .inr ?_;unfold fK at h;simp only [zE,zG,decide_eq_true_eq] at h;obtain⟨⟨j,h2⟩,e⟩:=h;obtain⟨u,f⟩:=Option.isSome_iff_exists.1 e;exact⟨(n-1).toNat,u,by omega,by omega,f⟩
theorem nJ {c:Dc} {n:Nat} {u:Us} (e:n<c.fr.length)(h2:c.fr.getD n none=some u):fK c ((n+1:Nat):Int)=true:=by unfold fK;rw [zdt (show(1:Int)<=((n+1:Nat):Int) by omega),zdt (show((n+1:Nat):Int)<=(c.fr.length:Int) by omega),show(((n+1:Nat):Int)-1).toNat=n by omega,h2];rfl
theorem bQV(c:Dc)(n k:Int)(f:SmD c)(j:fK c n=false):aM Tryz.prog 45 [] [.agg c.c,.int .i64 n,.int .i64 k] (.tup [.agg c.c,.int .i64 2]) []:=by have e:=aBX c n f;rw [j] at e;obtain⟨z,B,E,gr,C,m,D⟩:=c;refine cK Tryz.func45 ?_;refine cO e ?_;exact Lf
def aH3(u:Us)(h:Nat):Us:=⟨u.file,u.page,u.p,u.ten,h,u.rd,u.wr⟩
theorem bT3(c:Dc)(n:Nat)(u:Us)(C:SmD c)(h:qF c n u)(hh:u.holds<=255)(k:Int)(Z: -255<=k/\k<=255)(h0:0<=(u.holds:Int)+k)(K:(u.holds:Int)+k<=255)(D:qF (c.setU n (aH3 u ((u.holds:Int)+k).toNat)) n (aH3 u ((u.holds:Int)+k).toNat)):
 aM Tryz.prog 45 [] [.agg c.c,.int .i64 ((n+1:Nat):Int),.int .i64 k] (.tup [.agg (c.put n (aH3 u ((u.holds:Int)+k).toNat)).c,.int .i64 0]) []:=by
 have J:=h.at_;have h2:=h.get;have j:=aBX c ((n+1:Nat):Int) C;rw [nJ J h2] at j;have Y:=C.fr;have f:=cC c.fr n J;rw [h2] at f;have e:=aZU c n (aH3 u ((u.holds:Int)+k).toNat) C D;generalize c.put n (aH3 u ((u.holds:Int)+k).toNat)=d at *;unfold Us.c aH3 at e;dsimp only at e;rw [show((((u.holds:Int)+k).toNat:Nat):Int)=(u.holds:Int)+k by omega] at e;obtain⟨H,B,O,gr,M,F,N⟩:=c;obtain⟨m,z,⟨pb,pv,pd⟩,E,holds,rd,wr⟩:=u
 have f:(aO B).getD n []=[.int .i64 (m:Int),.int .i64 (z:Int),.str pb,.int .i64 (pv:Int),.int .i64 (pd:Int),.int .i64 (E:Int),.int .i64 (holds:Int),.int .i64 (rd:Int),.int .i64 (wr:Int)]:=f;have G:(Dc.mk H B O gr M F N).c=[.lst 15 false (aX H),.lst 9 false (aO B),.lst 6 false (aK O),.lst 3 false (aQ gr),.lst 3 false (aU M),.lst 1 false (aB F),.lst 5 false (aN N)]:=rfl;rw [G] at j;dsimp only at *;rw [G] at e⊢;obtain⟨R,T,ac,W,aa,Q,ab⟩:=d
 refine cK Tryz.func45 ?_;refine cO j ?_;rw [bX,aP (n:=((n+1:Nat):Int)-1) (by omega) (by omega),show((n+1:Nat):Int)-1=(n:Int) by omega,show decide (9=9/\0<=(n:Int)/\(n:Int)< (B.length:Int))=true from zdt ⟨rfl,by omega,by omega⟩];rw [zA,f];refine Wk ?_
 rw [aP (n:=(holds:Int)+k) (by omega) (by omega),show decide (k< -255)=false from zdf (by omega),show decide (255<k)=false from zdf (by omega),show decide ((holds:Int)+k<0)=false from zdf (by omega),show decide (255< (holds:Int)+k)=false from zdf (by omega)];refine Wk ?_;rw [aP (n:=(holds:Int)+k) (by omega) (by omega)];refine cO e ?_
 try subst Z
 exact Lf
theorem bQT(c:Dc)(n:Nat)(u:Us)(M:SmD c)(h:qF c n u)(hh:u.holds<=255)(k:Int)(T:¬((-255<=k/\k<=255)/\0<=(u.holds:Int)+k/\(u.holds:Int)+k<=255)):
 aM Tryz.prog 45 [] [.agg c.c,.int .i64 ((n+1:Nat):Int),.int .i64 k] (.tup [.agg c.c,.int .i64 1]) []:=by
 have K:=h.at_;have h2:=h.get;have f:=aBX c ((n+1:Nat):Int) M;rw [nJ K h2] at f;have R:=M.fr;have e:=cC c.fr n K;rw [h2] at e;obtain⟨J,z,Q,gr,N,G,O⟩:=c;obtain⟨j,m,⟨W,Z,Y⟩,C,holds,rd,wr⟩:=u;have e:(aO z).getD n []=[.int .i64 (j:Int),.int .i64 (m:Int),.str W,.int .i64 (Z:Int),.int .i64 (Y:Int),.int .i64 (C:Int),.int .i64 (holds:Int),.int .i64 (rd:Int),.int .i64 (wr:Int)]:=e
 have H:(Dc.mk J z Q gr N G O).c=[.lst 15 false (aX J),.lst 9 false (aO z),.lst 6 false (aK Q),.lst 3 false (aQ gr),.lst 3 false (aU N),.lst 1 false (aB G),.lst 5 false (aN O)]:=rfl;rw [H] at f;dsimp only at *;rw [H]
 have B:(bif bif bif decide (k< -255) then true else decide (255<k) then true else decide (IntKind.i64.wrap ((holds:Int)+k)<0) then true else decide (255<IntKind.i64.wrap ((holds:Int)+k)))=true:=by
  by_cases D:k< -255
  ·rw [zdt D];rfl
  by_cases E:255<k
  ·rw [zdt E];cases decide (k< -255)<;> rfl
  rw [zdf D,zdf E,aP (n:=(holds:Int)+k) (by omega) (by omega)]
  by_cases F:(holds:Int)+k<0
  ·rw [zdt F];rfl
  rw [zdf F,zdt (show 255< (holds:Int)+k by omega)];rfl
 refine cK Tryz.func45 ?_;refine cO f ?_;rw [bX,aP (n:=((n+1:Nat):Int)-1) (by omega) (by omega),show((n+1:Nat):Int)-1=(n:Int) by omega,show decide (9=9/\0<=(n:Int)/\(n:Int)< (z.length:Int))=true from zdt ⟨rfl,by omega,by omega⟩];rw [zA,e];refine Wk ?_;rw [B];refine Wk ?_
 try subst T
 exact Lf
theorem bQX(c:Dc)(n k:Int)(f:SmD c)(j:fK c n=false):aM Tryz.prog 47 [] [.agg c.c,.int .i64 n,.int .i64 k] (.tup [.agg c.c,.int .i64 2]) []:=by have e:=aBX c n f;rw [j] at e;obtain⟨z,B,E,gr,C,m,D⟩:=c;refine cK Tryz.func47 ?_;refine cO e ?_;exact Lf
def aEM(u:Us)(r:Nat):Us:=⟨u.file,u.page,u.p,u.ten,u.holds,r,u.wr⟩
theorem bT4(c:Dc)(n:Nat)(u:Us)(D:SmD c)(h:qF c n u)(k:Nat)(hk:1<=k/\k<=3)(hz:k &&& (u.p.v ||| u.rd)=0)(E:qF (c.setU n (aEM u (u.rd ||| k))) n (aEM u (u.rd ||| k))):
 aM Tryz.prog 47 [] [.agg c.c,.int .i64 ((n+1:Nat):Int),.int .i64 (k:Int)] (.tup [.agg (c.put n (aEM u (u.rd ||| k))).c,.int .i64 0]) []:=by
 have O:=h.at_;have h2:=h.get;have j:=aBX c ((n+1:Nat):Int) D;rw [nJ O h2] at j;have ab:=D.fr;have f:=cC c.fr n O;rw [h2] at f;have e:=aZU c n (aEM u (u.rd ||| k)) D E
 have G:=h.pg.v;have F:=h.rd;generalize c.put n (aEM u (u.rd ||| k))=d at *
 unfold Us.c aEM at e;dsimp only at e;obtain⟨N,B,T,gr,Q,K,R⟩:=c;obtain⟨m,z,⟨pb,H,pd⟩,J,holds,C,wr⟩:=u;have f:(aO B).getD n []=[.int .i64 (m:Int),.int .i64 (z:Int),.str pb,.int .i64 (H:Int),.int .i64 (pd:Int),.int .i64 (J:Int),.int .i64 (holds:Int),.int .i64 (C:Int),.int .i64 (wr:Int)]:=f
 have M:(Dc.mk N B T gr Q K R).c=[.lst 15 false (aX N),.lst 9 false (aO B),.lst 6 false (aK T),.lst 3 false (aQ gr),.lst 3 false (aU Q),.lst 1 false (aB K),.lst 5 false (aN R)]:=rfl;rw [M] at j;dsimp only at *;rw [M] at e⊢;obtain⟨Y,Z,af,aa,ad,W,ae⟩:=d;refine cK Tryz.func47 ?_;refine cO j ?_
 rw [bX,aP (n:=((n+1:Nat):Int)-1) (by omega) (by omega),show((n+1:Nat):Int)-1=(n:Int) by omega,show decide (9=9/\0<=(n:Int)/\(n:Int)< (B.length:Int))=true from zdt ⟨rfl,by omega,by omega⟩];rw [zA,f];refine Wk ?_;have ac:H ||| C<4:=zU (n:=2) G F
 rw [fU (x:=H) (y:=C) (by omega) (by omega),aCQ (by omega) (by omega),hz,show decide ((k:Int)<1)=false from zdf (by omega),show decide (3< (k:Int))=false from zdf (by omega)];refine Wk ?_;rw [fU (x:=C) (y:=k) (by omega) (by omega)];refine cO e ?_
 try subst hk
 exact Lf
theorem bQW(c:Dc)(n:Nat)(u:Us)(W:SmD c)(h:qF c n u)(k:Int)(F:¬((1<=k/\k<=3)/\k.toNat &&& (u.p.v ||| u.rd)=0)):
 aM Tryz.prog 47 [] [.agg c.c,.int .i64 ((n+1:Nat):Int),.int .i64 k] (.tup [.agg c.c,.int .i64 1]) []:=by
 have T:=h.at_;have h2:=h.get;have j:=aBX c ((n+1:Nat):Int) W;rw [nJ T h2] at j;have aa:=W.fr;have f:=cC c.fr n T;rw [h2] at f;have H:=h.pg.v;have G:=h.rd;obtain⟨R,E,zo,gr,Y,O,Z⟩:=c;obtain⟨z,B,⟨pb,C,pd⟩,K,holds,D,wr⟩:=u;have f:(aO E).getD n []=[.int .i64 (z:Int),.int .i64 (B:Int),.str pb,.int .i64 (C:Int),.int .i64 (pd:Int),.int .i64 (K:Int),.int .i64 (holds:Int),.int .i64 (D:Int),.int .i64 (wr:Int)]:=f
 have Q:(Dc.mk R E zo gr Y O Z).c=[.lst 15 false (aX R),.lst 9 false (aO E),.lst 6 false (aK zo),.lst 3 false (aQ gr),.lst 3 false (aU Y),.lst 1 false (aB O),.lst 5 false (aN Z)]:=rfl;rw [Q] at j;dsimp only at *;rw [Q];refine cK Tryz.func47 ?_;refine cO j ?_;rw [bX,aP (n:=((n+1:Nat):Int)-1) (by omega) (by omega),show((n+1:Nat):Int)-1=(n:Int) by omega,show decide (9=9/\0<=(n:Int)/\(n:Int)< (E.length:Int))=true from zdt ⟨rfl,by omega,by omega⟩];rw [zA,f];refine Wk ?_
 have ab:C ||| D<4:=zU (n:=2) H G
 have J:(bif bif decide (k<1) then true else decide (3<k) then true else gC BinOp.and IntKind.i64 k (gC BinOp.or IntKind.i64 (C:Int) (D:Int)) != 0)=true:=by
  by_cases M:k<1
  ·rw [zdt M];rfl
  by_cases N:3<k
  ·rw [zdt N];cases decide (k<1)<;> rfl
  obtain⟨m,rfl⟩:∃m:Nat,k=(m:Int):=⟨k.toNat,by omega⟩;rw [zA] at F;rw [zdf M,zdf N,fU (x:=C) (y:=D) (by omega) (by omega),aCQ (by omega) (by omega)];have :m &&& (C ||| D)≠0:=λe=>F ⟨⟨by omega,by omega⟩,e⟩
  simp only [zcf,bne_iff_ne];omega
 rw [J];refine Wk ?_
 try subst F
 exact Lf
attribute [simp] aA bX cP aF aL bW bT
theorem qA {c:Dc} {n:Nat} {u:Us} (e:n<c.fr.length)(h2:c.fr.getD n none=some u):(aO c.fr).getD n []=u.c:=by rw [cC c.fr n e,h2];rfl
theorem aAA {c:Dc} {f:Nat} (e:f<c.fl.length):(aX c.fl).getD f []=(c.fl.getD f aZ).c:=iD c.fl f e
theorem Ok.use70 {c:Dc} (h:Ok c) {n:Nat} {u:Us} (e:n<c.fr.length)(h2:c.fr.getD n none=some u):aM Tryz.prog 70 [] [.agg c.c,.int .i64 ((n+1:Nat):Int)] (.bool true) []:=by
 have :=aBX c ((n+1:Nat):Int) h.sm
 rwa [nJ e h2] at this
end Go.Proofs.YtmhapcbjjpadnaaGreat
