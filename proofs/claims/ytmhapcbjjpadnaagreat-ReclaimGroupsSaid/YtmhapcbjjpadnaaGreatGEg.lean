/- Caches. -/
import Derived.Test.YtmhapcbjjpadnaaGreatGDg
import Derived.Test.YtmhapcbjjpadnaaGreatG6g
import Derived.Test.YtmhapcbjjpadnaaGreatGCg
import Derived.Test.YtmhapcbjjpadnaaGreatG4g
import Derived.Test.YtmhapcbjjpadnaaGreatK8g
set_option linter.all false
set_option maxHeartbeats 2000000
set_option maxRecDepth 40000
open Bool renaming cond_false_right→zE,not_true→zF,and_eq_true→zG,cond_true_left→zK,not_eq_false'→zL,not_eq_true'→zM,not_not→zT
open Int renaming toNat_natCast→zA
open List renaming getD_eq_getElem?_getD→zC,length_set→zD,mem_append→zH,getElem_mem→zJ,cons_append→zO,getElem?_eq_none→zP,getElem_of_mem→zQ,mem_cons→zR
open Nat renaming le_of_not_lt→zI,zero_le→zN,add_sub_cancel→zS,or_lt_two_pow→zU
namespace Go.Proofs.YtmhapcbjjpadnaaGreat
open Go Go.Sk Go.RowKit
theorem gE(L:List Ls)(k:Nat)(h:k<L.length):(bA L).getD k []=(L.getD k l0).c:=by have :=aQX L k h;rwa [zA] at this
def Dc.acc(c:Dc)(n:Nat)(t:Nat):Dc:=⟨c.fl,c.fr,c.zo,c.gr,c.ls.set t (oD (c.ls.getD t l0) ((n+1:Nat):Int)).1,c.ck,c.pt⟩
theorem bND(c:Dc)(n:Nat)(u:Us)(hc:SmD c)(F:n<c.fr.length)(K:c.fr.getD n none=some u)(G:u.ten<c.ls.length)(N:eA (c.ls.getD u.ten l0)):
 aM Tryz.prog 127 [] [.agg c.c,.int .i64 ((n+1:Nat):Int)] (.agg (c.acc n u.ten).c) []:=by
 have H:=aO4 c hc;have f:=bSB (c.ls.getD u.ten l0) ((n+1:Nat):Int) N;unfold Dc.acc;obtain⟨T,C,zo,gr,j,Q,W⟩:=c;have D:=hc.fr;have E:=hc.ls;dsimp only at F K G D E f⊢;have m:=cD C n F;rw [K] at m;have m:(aQ C).getD n []=u.c:=m;obtain⟨J,M,p,e,holds,Y,Z⟩:=u;dsimp only at G f;have B:=gE j e G;have z:∀x:Ls,(bA j).set e (aS 3 (j.getD e l0).c 0 x.c)=bA (j.set e x):=λx=>kI j e x;generalize j.getD e l0=l at f B z
 generalize(oD l ((n+1:Nat):Int)).2=R at f;generalize(oD l ((n+1:Nat):Int)).1=O at f⊢;refine cF Tryz.func127 ?_;refine Wk ?_;refine .inr ⟨λ_=>⟨[],_,_,_,H,trivial,rfl,rfl,rfl,?_⟩,(by intro h;cases h)⟩
 refine Wk ?_;rw [aN (n:=((n+1:Nat):Int)-1) (by omega) (by omega),show((n+1:Nat):Int)-1=(n:Int) by omega,show decide (0<=(n:Int)/\(n:Int)< (C.length:Int))=true from zdt ⟨by omega,by omega⟩];refine Wk ?_;rw [show 0+(n:Int).toNat=n by omega,show decide (n< (aQ C).length)=true from zdt (by rw [bU];exact F),m];refine Wk ?_;refine⟨λ_=>⟨by show(0:Int)<=(e:Int);omega,by show(e:Int)< (j.length:Int);omega⟩,?_⟩;refine Wk ?_
 refine⟨λ_=>by show 0+(e:Int).toNat< (bA j).length;rw [bT];omega,by omega,?_⟩;rw [show 0+(e:Int).toNat=e by omega,B];refine cL f ?_;refine⟨λ_=>⟨by show(0:Int)<=(e:Int);omega,by show(e:Int)< (j.length:Int);omega⟩,?_⟩;refine Wk ?_;rw [show 0+(e:Int).toNat=e by omega,B];refine⟨by show e< (bA j).length;rw [bT];omega,by omega,?_⟩;refine Wk ?_;refine⟨[],trivial,rfl,trivial,rfl,?_⟩
 repeat' (first |exact trivial |rfl |exact .inl rfl |exact .inr rfl |exact id |exact zbc |apply And.intro)
 all_goals first
  |exact bZ rfl (cJ _)
  |exact bZ rfl (bU _)
  |exact bZ rfl (aL _)
  |exact bZ rfl (aA _)
  | (rw [cJ];omega)
  | (rw [bU];omega)
  | (rw [aL];omega)
  | (rw [aA];omega)
  |exact bZ (z O) (by rw [zD];exact bT j)
  | (rw [zD,bT];show 0+j.length<=j.length;omega)
def fZ(c:Dc)(n:Int):Bool:=bif (bif decide (1<=n) then decide (n<=(c.fr.length:Int)) else false) then(c.fr.getD (n-1).toNat none).isSome else false
def dW(u:Us):Bool:=bif (bif (u.holds:Int)==0 then(u.rd:Int)==0 else false) then(u.wr:Int)==0 else false
theorem aZK(u:Us):aM Tryz.prog 28 [] [.agg u.c] (.bool (dW u)) []:=by obtain⟨e,f,p,j,holds,m,z⟩:=u;refine cF Tryz.func28 ?_;refine Wk ?_;exact Lf
theorem bG7(u:Us):aM Tryz.prog 151 [] [.agg u.c] (.bool (dW u)) []:=by obtain⟨e,f,p,j,holds,m,z⟩:=u;refine cF Tryz.func151 ?_;refine Wk ?_;exact Lf
theorem aJR(L:List (Option Us))(k:Nat):(aQ L).getD k []=[]\/∃o,(aQ L).getD k []=frC o:=by
 by_cases h:k<L.length
 ·exact .inr ⟨_,cD L k h⟩
 ·exact .inl (by simp [aQ,zC,zP (zI h)])
theorem aCX(c:Dc)(n:Int)(hc:SmD c):aM Tryz.prog 70 [] [.agg c.c,.int .i64 n] (.bool (fZ c n)) []:=by
 obtain⟨C,f,H,gr,E,B,G⟩:=c;have z:=hc.fr;dsimp only at z;generalize e:fZ ⟨C,f,H,gr,E,B,G⟩ n=q;unfold fZ at e;dsimp only at e;show aM Tryz.prog 70 [] [.agg [.lst 15 false (bF C),.lst 9 false (aQ f),.lst 6 false (aJ H),.lst 3 false (aR gr),.lst 3 false (bA E),.lst 1 false (aB B),.lst 5 false (aP G)],.int .i64 n] (.bool q) [];refine cF Tryz.func70 ?_;refine Wk ?_;rw [bU]
 cases h1:(bif decide (1<=n) then decide (n<=(f.length:Int)) else false) with
 |false=>
  rw [h1,zcf] at e;subst e;refine Wk ?_;rcases aJR f (IntKind.i64.wrap (n-1)).toNat with h2 | ⟨o,h2⟩
  ·rw [h2];refine Wk ?_
   try subst e
   exact Lf
  ·rw [h2]
   cases o with
   |none=>
    refine Wk ?_
    try subst e
    exact Lf
   |some u=>
    refine Wk ?_
    try subst e
    exact Lf
 |true=>
  rw [h1,zct] at e
  have K:1<=n/\n<=(f.length:Int):=by
   by_cases a:1<=n
   ·rw [zdt a,zct,decide_eq_true_eq] at h1;exact⟨a,h1⟩
   ·rw [zdf a] at h1;cases h1
  obtain⟨m,rfl⟩:∃m:Nat,n=((m+1:Nat):Int):=⟨(n-1).toNat,by omega⟩;rw [show(((m+1:Nat):Int)-1).toNat=m by omega] at e;have hg:=cD f m (by omega);rw [aN (n:=((m+1:Nat):Int)-1) (by omega) (by omega),show((m+1:Nat):Int)-1=(m:Int) by omega];refine aI ⟨rfl,by omega,by omega⟩ ?_;rw [zA,hg]
  cases D:f.getD m none with
  |none=>
   rw [D] at e;subst e;refine Wk ?_
   try subst e
   exact Lf
  |some u=>
   rw [D] at e;subst e;obtain⟨j,F,p,J,holds,M,N⟩:=u;refine Wk ?_;rw [show((j:Int) != -1)=true from bne_iff_ne.2 (by omega)]
   try subst e
   exact Lf
def findF(E:dD)(i:Int):Int×Bool:=bif decide (aDC E i<=0) then(0,false) else(aDC E i,true)
theorem aZN(c:Dc)(f:Nat)(i:Int)(hc:SmD c)(F:f<c.fl.length)(D:bG (c.fl.getD f aX).E)(J:Sup (c.fl.getD f aX).E):
 aM Tryz.prog 33 [] [.agg c.c,.int .i64 (f:Int),.int .i64 i] (.tup [.int .i64 (findF (c.fl.getD f aX).E i).1,.bool (findF (c.fl.getD f aX).E i).2]) []:=by
 have B:=aH2 c f F;have j:=aYY D J i;obtain⟨C,M,Q,gr,N,K,O⟩:=c;dsimp only at F D J j⊢;have z:=gX C f F;generalize C.getD f aX=x at *;obtain⟨k0,k1,k2,k3,e⟩:=cC D;have G:x.c=[.int .i64 x.dev,.int .i64 x.slot,.int .i64 (hgt x.E:Int),.lst k0 k1 k2,.int .i64 k3,.int .i64 (oG x.E 0 (4^hgt x.E):Nat),.int .i64 (x.size:Int),.int .i64 (x.blocks:Int),.int .i64 x.ec,.int .i64 x.ee,.int .i64 0,.int .i64 0,.int .i64 0,.int .i64 0,.int .i64 0]:=by unfold Df.c;rw [e];rfl
 rw [G] at z;rw [e] at j;generalize m:findF x.E i=q;unfold findF at m;generalize aDC x.E i=v at j m;refine cF Tryz.func33 ?_;refine cL B ?_;refine aI (⟨rfl,by omega,by show(f:Int)< ((bF C).length:Int);rw [cJ];omega⟩) ?_;rw [zA,z];refine cL j ?_;refine aC (λH=>?_) (λH=>?_)<;> try simp only [zK,zE,zM,zL,zT] at H
 ·rw [H,zct] at m;subst m;refine Wk ?_
  try subst m
  exact Lf
 rw [H,zcf] at m;subst m;refine Wk ?_
 try subst m
 exact Lf
theorem bDI(c:Dc)(n:Int)(hc:SmD c):aM Tryz.prog 96 [] [.agg c.c,.int .i64 n] (.bool (fZ c n)) []:=by
 obtain⟨C,f,H,gr,E,B,G⟩:=c;have z:=hc.fr;dsimp only at z;generalize e:fZ ⟨C,f,H,gr,E,B,G⟩ n=q;unfold fZ at e;dsimp only at e;show aM Tryz.prog 96 [] [.agg [.lst 15 false (bF C),.lst 9 false (aQ f),.lst 6 false (aJ H),.lst 3 false (aR gr),.lst 3 false (bA E),.lst 1 false (aB B),.lst 5 false (aP G)],.int .i64 n] (.bool q) [];refine cF Tryz.func96 ?_;refine Wk ?_;rw [bU]
 cases h1:(bif decide (1<=n) then decide (n<=(f.length:Int)) else false) with
 |false=>
  rw [h1,zcf] at e;subst e;refine Wk ?_;rcases aJR f (IntKind.i64.wrap (n-1)).toNat with h2 | ⟨o,h2⟩
  ·rw [h2];refine Wk ?_
   try subst e
   exact Lf
  ·rw [h2]
   cases o with
   |none=>
    refine Wk ?_
    try subst e
    exact Lf
   |some u=>
    refine Wk ?_
    try subst e
    exact Lf
 |true=>
  rw [h1,zct] at e
  have K:1<=n/\n<=(f.length:Int):=by
   by_cases a:1<=n
   ·rw [zdt a,zct,decide_eq_true_eq] at h1;exact⟨a,h1⟩
   ·rw [zdf a] at h1;cases h1
  obtain⟨m,rfl⟩:∃m:Nat,n=((m+1:Nat):Int):=⟨(n-1).toNat,by omega⟩;rw [show(((m+1:Nat):Int)-1).toNat=m by omega] at e;have hg:=cD f m (by omega);rw [aN (n:=((m+1:Nat):Int)-1) (by omega) (by omega),show((m+1:Nat):Int)-1=(m:Int) by omega];refine aI ⟨rfl,by omega,by omega⟩ ?_;rw [zA,hg]
  cases D:f.getD m none with
  |none=>
   rw [D] at e;subst e;refine Wk ?_
   try subst e
   exact Lf
  |some u=>
   rw [D] at e;subst e;obtain⟨j,F,p,J,holds,M,N⟩:=u;refine Wk ?_;rw [show decide ((0:Int)<=(j:Int))=true from zdt (by omega)]
   try subst e
   exact Lf
def eG(p:Pt):Bool:=bif (bif (bif (bif (bif decide (0<=p.proc) then decide (p.proc<8) else false) then decide (0<=p.page) else false) then decide (p.page<64) else false) then decide (1<=p.frame) else false) then decide (p.frame<=64) else false
def eL(a b:Pt):Bool:=bif decide (a.proc<b.proc) then true else bif a.proc==b.proc then decide (a.page<b.page) else false
theorem bGR(p:Pt):aM Tryz.prog 273 [] [.agg p.c] (.bool (eG p)) []:=by obtain⟨j,f,e,z,m⟩:=p;refine cF Tryz.func273 ?_;refine Wk ?_;exact Lf
theorem aZJ(a b:Pt):aM Tryz.prog 274 [] [.agg a.c,.agg b.c] (.bool (eL a b)) []:=by obtain⟨C,B,f,F,D⟩:=a;obtain⟨m,j,e,E,z⟩:=b;refine cF Tryz.func274 ?_;refine Wk ?_;exact Lf
def aA3(l:List Pt)(j:Nat):Bool:=bif !eG (l.getD j p0) then true else bif decide (0< (j:Int)) then !eL (l.getD (j-1) p0) (l.getD j p0) else false
def kP(l:List Pt):Bool:=bC (aA3 l) l.length
theorem gY(L:List Pt)(k:Nat)(h:k<L.length):(aP L).getD k []=(L.getD k p0).c:=by have :=aAG L k h;rwa [zA] at this
theorem aZB(l:List Pt)(t:Bool)(G:l.length<=100000):aM Tryz.prog 202 [] [.lst 5 t (aP l)] (.bool (kP l)) []:=by
 generalize e:kP l=q;refine cF Tryz.func202 ?_;refine Wk ?_;refine⟨Nat,λi=>i<=l.length/\bC (aA3 l) i=true,λi=>⟨[(0,⟨[],true,.lst 5 t (aP l)⟩),(3,⟨[],true,.int .i64 (i:Int)⟩)],[],0⟩,λi=>l.length-i,⟨0,⟨zN _,rfl⟩,?_⟩,λi F=>?_⟩
 ·exact Vw []
 obtain⟨D,j⟩:=F;dsimp only at D j⊢;refine Wk ?_;rw [bR];refine aC (λf=>?_) (λf=>?_)<;> try simp only [zK,zE,zM,zL,zT] at f
 ·have f:i<l.length:=by simp at f;omega
  have B:aA3 l i=bif !eG (l.getD i p0) then true else bif decide (0< (i:Int)) then !eL (l.getD (i-1) p0) (l.getD i p0) else false:=rfl
  have hg:=gY l i f;have C:=gY l (i-1) (by omega);have m:=bGR (l.getD i p0);have z:=aZJ (l.getD (i-1) p0) (l.getD i p0);generalize l.getD i p0=b at *;generalize l.getD (i-1) p0=a at *;refine Wk ?_;refine⟨λ_=>⟨rfl,by omega,by rw [bR];omega⟩,?_⟩;rw [zA,hg];refine cL m ?_;rw [aN (n:=(i:Int)-1) (by omega) (by omega),show((i:Int)-1).toNat=i-1 by omega];refine⟨λhg=>⟨rfl,by simp only [zG,decide_eq_true_eq] at hg;omega,by rw [bR];omega⟩,?_⟩;rw [C];refine Wk ?_
  refine⟨λ_=>⟨rfl,by omega,by rw [bR];omega⟩,?_⟩;rw [zA,hg];refine cL z ?_;rw [<-B]
  cases E:aA3 l i with
  |true=>
   have e:false=q:=by rw [<-e];exact(eF f E).symm
   subst e;refine Wk ?_
   try subst e
   exact Lf
  |false=> refine Wk ?_;rw [dY (by omega)];refine⟨i+1,⟨by show i+1<=_;omega,by show bC (aA3 l) (i+1)=true;simp only [bC,j,E];rfl⟩,?_,by show l.length- (i+1)<l.length-i;omega⟩;exact Vw []
 have f:i=l.length:=by simp at f;omega
 subst f;have e:true=q:=by rw [<-e];exact j.symm
 subst e;refine Wk ?_
 try subst e
 exact Lf
def pN(f:Int)(p:Pt):Bool:=p.frame != f
def oK(l:List Pt)(f:Int):List Pt:=bif kP l then l.filter (pN f) else l
theorem bO8(l:List Pt)(f:Int)(hc:kP l=true)(G:l.length<=100000):aM Tryz.prog 248 [] [.lst 5 false (aP l),.int .i64 f] (.lst 5 false (aP (oK l f))) []:=by
 have m:=aZB l false G;rw [hc] at m;unfold oK;rw [hc,zct];refine cF Tryz.func248 ?_;refine cL m ?_;refine⟨Nat,λk=>k<=l.length,λk=>⟨[(0,⟨[],true,.lst 5 false (aP l)⟩),(1,⟨[],true,.int .i64 f⟩),(5,⟨[],true,.sl 0 0 ((l.take k).filter (pN f)).length⟩),(6,⟨[],true,.int .i64 (k:Int)⟩)],[(0,.row 5 (aP ((l.take k).filter (pN f))))],1⟩,λk=>l.length-k,⟨0,zN _,?_⟩,λk E=>?_⟩
 ·exact Vw [none]
 dsimp only at E⊢;have C:((l.take k).filter (pN f)).length<=100000:=by have :=List.length_filter_le (pN f) (l.take k);have :=List.length_take_le k l;omega
 refine Wk ?_;rw [bR];refine aC (λz=>?_) (λz=>?_)<;> try simp only [zK,zE,zM,zL,zT] at z
 ·have z:k<l.length:=by simp at z;omega
  have e:=tO (pN f) l k p0 z;have hg:=gY l k z;have B:((l.getD k p0).frame != f)=pN f (l.getD k p0):=rfl;generalize l.getD k p0=j at e hg B;generalize(l.take k).filter (pN f)=F at e C;refine Wk ?_;refine aI (⟨rfl,by omega,by rw [bR];omega⟩) ?_;rw [zA,hg];refine Wk ?_;rw [B]
  cases D:pN f j with
  |true=>
   rw [D,zct] at e;refine Wk ?_;refine aI (⟨rfl,by omega,by rw [bR];omega⟩) ?_;rw [zA,hg];refine Wk ?_;refine aI (bR F).symm (cE (by rw [bR];show((F.length+1:Nat):Int)<=_;omega) (by rw [bR];show(F.length+1)*32<=_;omega) ?_);refine Wk ?_;rw [dY (by omega)];refine⟨k+1,by show k+1<=_;omega,?_,by show l.length- (k+1)<l.length-k;omega⟩;dsimp only;rw [e];refine bV [some 2] rfl rfl ?_ rfl ?_ rfl ?_
   repeat' (first |exact trivial |rfl |exact .inl rfl |exact .inr rfl |exact id |exact zbc |apply And.intro)
   ·show aP F++ [j.c]=_;simp [aP]
   ·show(aP F).length+1=_;rw [bR,List.length_append];rfl
  |false=> rw [D,zcf] at e;refine Wk ?_;rw [dY (by omega)];refine⟨k+1,by show k+1<=_;omega,?_,by show l.length- (k+1)<l.length-k;omega⟩;dsimp only;rw [e];exact Vw [some 0]
 have z:k=l.length:=by simp at z;omega
 subst z;rw [List.take_length];refine Wk ?_;refine⟨[],trivial,rfl,trivial,rfl,?_⟩
 repeat' (first |exact trivial |rfl |exact .inl rfl |exact .inr rfl |exact id |exact zbc |apply And.intro)
 ·rw [bR];omega
 ·exact bZ rfl (bR _)
def Dc.o2(c:Dc):List V:= [.sl 0 0 c.fl.length,.sl 1 0 c.fr.length,.lst 6 false (aJ c.zo),.lst 3 false (aR c.gr),.sl 2 0 c.ls.length,.sl 3 0 c.ck.length,.lst 5 false (aP c.pt)]
def Dc.ob2(c:Dc):List Sk.Obj:= [.row 15 (bF c.fl),.row 9 (aQ c.fr),.row 3 (bA c.ls),.row 1 (aB c.ck)]
def Dc.gone(c:Dc)(n:Nat)(u:Us)(v:Int):Dc:= ⟨c.fl.set u.file (hY (c.fl.getD u.file aX) (dZ (c.fl.getD u.file aX).E u.page (v,0))),c.fr.set n none,(eT c.zo c.zo ((n+1:Nat):Int)).1,(gH c.gr u.ten).1,c.ls.set u.ten (kL (c.ls.getD u.ten l0) ((n+1:Nat):Int)).1,c.ck,oK c.pt ((n+1:Nat):Int)⟩
theorem bG8(c:Dc)(n:Nat)(u:Us)(v:Int)(hc:SmD c)(h:pU c n u)(hg:u.ten<c.gr.length)(ad:mV c.gr=true)(hz:fF c.zo)(hl:eA (c.ls.getD u.ten l0))(hp:kP c.pt=true)(ae:c.pt.length<=100000):
 aM Tryz.prog 154 [] [.agg c.c,.int .i64 ((n+1:Nat):Int),.int .i64 v] (.agg (c.gone n u v).o2) (c.gone n u v).ob2:=by
 have aa:=aO4 c hc;have T:=bO8 c.pt ((n+1:Nat):Int) hp ae;have W:=bO9 (c.ls.getD u.ten l0) ((n+1:Nat):Int) hl;have Y:=bOB c.gr u.ten hg ad;have Z:=bOC c.zo false ((n+1:Nat):Int) hz;have H:=aYZ h.E h.sup u.page h.page v;have Q:bG (dZ (c.fl.getD u.file aX).E u.page (v,0)):=h.E.set (Nat.zero_lt_succ _) (λ_=>rfl);obtain⟨h1,h2,h3,h4,h5,h6,h7,h8,h9,ag,ah⟩:=h;obtain⟨D,m,G,gr,B,N,O⟩:=c;have ak:=hc.fr;have al:=hc.ls;have aj:=hc.fl;have ai:=hc.ck;unfold Dc.gone Dc.o2 Dc.ob2
 dsimp only at *;have j:=cD m n h1;rw [h2] at j;have j:(aQ m).getD n []=u.c:=j;have F:=gX D u.file h3;have R:=gE B u.ten h9;have z:=aBI D u.file _ h3 h5 Q;rw [F] at z;have J:∀x:Ls,(bA B).set u.ten (aS 3 (B.getD u.ten l0).c 0 x.c)=bA (B.set u.ten x):=λx=>kI B u.ten x;have K:(aQ m).set n (aS 9 u.c 0 fre.c)=aQ (m.set n none):=by have :aS 9 u.c 0 fre.c=fre.c:=rfl;rw [this];unfold aQ;rw [List.map_set];rfl
 generalize(eT G G ((n+1:Nat):Int)).1=ao at *;generalize(eT G G ((n+1:Nat):Int)).2=ze at *;generalize(gH gr u.ten).1=af at *;generalize(gH gr u.ten).2=ge at *;generalize oK O ((n+1:Nat):Int)=am at *;generalize D.getD u.file aX=f at *;generalize B.getD u.ten l0=l at *;generalize(kL l ((n+1:Nat):Int)).2=le at *;generalize(kL l ((n+1:Nat):Int)).1=l2 at *;obtain⟨k0,k1,k2,k3,e⟩:=cC h5;obtain⟨q0,q1,q2,q3,e'⟩:=cC Q
 have ac:f.c=[.int .i64 f.dev,.int .i64 f.slot,.int .i64 (hgt f.E:Int),.lst k0 k1 k2,.int .i64 k3,.int .i64 (oG f.E 0 (4^hgt f.E):Nat),.int .i64 (f.size:Int),.int .i64 (f.blocks:Int),.int .i64 f.ec,.int .i64 f.ee,.int .i64 0,.int .i64 0,.int .i64 0,.int .i64 0,.int .i64 0]:=by unfold Df.c;rw [e];rfl
 rw [ac] at F z;rw [e'] at z;rw [e,e'] at H;rw [zD,zD,zD];rw [<-z,<-K,<-J];obtain⟨C,ab,⟨pb,pv,pd⟩,M,holds,rd,wr⟩:=u;dsimp only at *;have j:(aQ m).getD n []=[.int .i64 (C:Int),.int .i64 (ab:Int),.str pb,.int .i64 (pv:Int),.int .i64 (pd:Int),.int .i64 (M:Int),.int .i64 (holds:Int),.int .i64 (rd:Int),.int .i64 (wr:Int)]:=j
 have e0:(Dc.mk D m G gr B N O).c=[.lst 15 false (bF D),.lst 9 false (aQ m),.lst 6 false (aJ G),.lst 3 false (aR gr),.lst 3 false (bA B),.lst 1 false (aB N),.lst 5 false (aP O)]:=rfl;have e1:(Dc.mk D m G gr B N O).o=[.sl 0 0 D.length,.sl 1 0 m.length,.lst 6 false (aJ G),.sl 2 0 gr.length,.sl 3 0 B.length,.sl 4 0 N.length,.lst 5 false (aP O)]:=rfl;have e2:(Dc.mk D m G gr B N O).ob=[.row 15 (bF D),.row 9 (aQ m),.row 3 (aR gr),.row 3 (bA B),.row 1 (aB N)]:=rfl
 rw [e0,e1,e2] at aa;rw [e0];refine cF Tryz.func154 ?_;refine Wk ?_;rw [bU,aN (n:=((n+1:Nat):Int)-1) (by omega) (by omega),show((n+1:Nat):Int)-1=(n:Int) by omega,show decide (9=9/\0<=(n:Int)/\(n:Int)< (m.length:Int))=true from zdt ⟨rfl,by omega,by omega⟩];rw [zA,j];refine Wk ?_;refine .inr ⟨λ_=>⟨[],_,_,_,aa,trivial,rfl,rfl,rfl,?_⟩,(by intro h;cases h)⟩
 refine cL T ?_;refine⟨λ_=>⟨rfl,by omega,by rw [bT];omega⟩,?_⟩;rw [zA,R];refine cL W ?_;refine⟨λ_=>⟨by omega,by omega⟩,?_⟩;refine Wk ?_;rw [show 0+(M:Int).toNat=M by omega,R];refine⟨by rw [bT];omega,by omega,?_⟩;refine Wk2 Y Z ?_;refine⟨λ_=>⟨rfl,by omega,by rw [cJ];omega⟩,?_⟩;rw [zA,F];refine cL H ?_;refine⟨λ_=>⟨by omega,by omega⟩,?_⟩;refine Wk ?_;rw [show 0+(C:Int).toNat=C by omega,F];refine⟨by rw [cJ];omega,by omega,?_⟩;refine Wk ?_
 rw [aN (n:=((n+1:Nat):Int)-1) (by omega) (by omega),show((n+1:Nat):Int)-1=(n:Int) by omega,show decide (0<=(n:Int)/\(n:Int)< (m.length:Int))=true from zdt ⟨by omega,by omega⟩];refine Wk ?_;rw [show 0+(n:Int).toNat=n by omega,show decide (n< (aQ m).length)=true from zdt (by rw [bU];exact h1),j];refine Wk ?_;exact⟨[some 3,some 4,some 6,some 7],Cl,rfl,Cl,rfl,Cl⟩
theorem bPH(c:Dc)(n:Int)(hc:SmD c)(f:fZ c n=false):aM Tryz.prog 43 [] [.agg c.c,.int .i64 n] (.tup [.agg c.c,.int .i64 2]) []:=by have e:=aCX c n hc;rw [f] at e;obtain⟨m,z,D,gr,B,j,C⟩:=c;refine cF Tryz.func43 ?_;refine cL e ?_;exact Lf
def Dc.evi(c:Dc)(n:Nat)(u:Us):Dc:=
 let d:=c.gone n u (0- (c.ck.getD u.ten 0+1))
 ⟨d.fl,d.fr,d.zo,d.gr,d.ls,d.ck.set u.ten (min (c.ck.getD u.ten 0+1) 1000000),d.pt⟩
theorem bRO(c:Dc)(n:Nat)(u:Us)(hc:SmD c)(h:pU c n u)(hg:u.ten<c.gr.length)(J:mV c.gr=true)(hz:fF c.zo)(hl:eA (c.ls.getD u.ten l0))(hp:kP c.pt=true)(K:c.pt.length<=100000)
 (T:u.ten<c.ck.length) (D:0<=c.ck.getD u.ten 0/\c.ck.getD u.ten 0<=1000000) (hi:dW u=true) (hd:u.p.d=0):
 aM Tryz.prog 43 [] [.agg c.c,.int .i64 ((n+1:Nat):Int)] (.tup [.agg (c.evi n u).c,.int .i64 0]) []:=by
 have N:fZ c ((n+1:Nat):Int)=true:=by unfold fZ;have :=h.at_;rw [zdt (show(1:Int)<=((n+1:Nat):Int) by omega),zdt (show((n+1:Nat):Int)<=(c.fr.length:Int) by omega),show(((n+1:Nat):Int)-1).toNat=n by omega,h.get];rfl
 have G:=aCX c ((n+1:Nat):Int) hc;rw [N] at G;have F:=aZK u;rw [hi] at F;have O:=bRZ _ D.1 D.2;have j:=bG8 c n u (0- (c.ck.getD u.ten 0+1)) hc h hg J hz hl hp K;have E:(c.gone n u (0- (c.ck.getD u.ten 0+1))).ck=c.ck:=rfl;unfold Dc.evi;generalize c.gone n u (0- (c.ck.getD u.ten 0+1))=g at j E⊢;obtain⟨h1,h2,h3,h4,h5,h6,h7,h8,h9,ad,ae⟩:=h;obtain⟨Q,B,Z,gr,W,ck,Y⟩:=c;obtain⟨aa,ab,ai,ac,ag,f,ah⟩:=g;have af:=hc.fr;have R:=hc.ck;dsimp only at *;subst E
 have m:=cD B n h1;rw [h2] at m;have m:(aQ B).getD n []=u.c:=m;obtain⟨C,H,⟨pb,pv,pd⟩,e,holds,rd,wr⟩:=u;dsimp only at *;subst hd;have m:(aQ B).getD n []=[.int .i64 (C:Int),.int .i64 (H:Int),.str pb,.int .i64 (pv:Int),.int .i64 0,.int .i64 (e:Int),.int .i64 (holds:Int),.int .i64 (rd:Int),.int .i64 (wr:Int)]:=m;have z:(aB f).getD e []=[.int .i64 (f.getD e 0)]:=by simp [aB,zC,T]
 have M:∀x:Int,(aB f).set e (aS 1 [.int .i64 (f.getD e 0)] 0 [.int .i64 x])=aB (f.set e x):=λx=>by have :aS 1 [V.int .i64 (f.getD e 0)] 0 [.int .i64 x]=[.int .i64 x]:=rfl;rw [this];unfold aB;rw [List.map_set]
 generalize f.getD e 0=w at *;have e0:(Dc.mk Q B Z gr W f Y).c=[.lst 15 false (bF Q),.lst 9 false (aQ B),.lst 6 false (aJ Z),.lst 3 false (aR gr),.lst 3 false (bA W),.lst 1 false (aB f),.lst 5 false (aP Y)]:=rfl;rw [e0];refine cF Tryz.func43 ?_;refine cL G ?_;rw [bU,aN (n:=((n+1:Nat):Int)-1) (by omega) (by omega),show((n+1:Nat):Int)-1=(n:Int) by omega,show decide (9=9/\0<=(n:Int)/\(n:Int)< (B.length:Int))=true from zdt ⟨rfl,by omega,by omega⟩];rw [zA,m]
 refine cL F ?_;rw [aA,show decide (1=1/\0<=(e:Int)/\(e:Int)< (f.length:Int))=true from zdt ⟨rfl,by omega,by omega⟩,zA,z];refine cL O ?_;unfold Dc.o2 Dc.ob2 at j;dsimp only at j;refine .inr ⟨λ_=>⟨[],_,_,_,j,trivial,rfl,rfl,rfl,?_⟩,(by intro h;cases h)⟩
 refine Wk ?_;refine⟨λ_=>⟨rfl,by omega,by rw [aA];omega⟩,?_⟩;rw [zA,z];refine Wk ?_;rw [aN (n:=w+1) (by omega) (by omega)];refine⟨λ_=>⟨by omega,by omega⟩,?_⟩;refine Wk ?_;rw [show 0+(e:Int).toNat=e by omega,z];refine⟨by rw [aA];omega,by omega,?_⟩;refine Wk ?_;refine⟨[],trivial,rfl,trivial,rfl,?_⟩
 try subst T
 repeat' (first |exact trivial |rfl |exact .inl rfl |exact .inr rfl |exact id |exact zbc |apply And.intro)
 all_goals first
  |exact bZ rfl (cJ _)
  |exact bZ rfl (bU _)
  |exact bZ rfl (aL _)
  |exact bZ rfl (bT _)
  |exact bZ rfl (aA _)
  | (rw [cJ];omega)
  | (rw [bU];omega)
  | (rw [aL];omega)
  | (rw [bT];omega)
  | (rw [aA];omega)
  |exact bZ (M _) (by rw [zD];exact aA _)
  | (rw [zD,aA];omega)
theorem bPF(c:Dc)(n:Nat)(u:Us)(hc:SmD c)(h1:n<c.fr.length)(h2:c.fr.getD n none=some u)(hi:(dW u&&decide (u.p.d=0))=false):
 aM Tryz.prog 43 [] [.agg c.c,.int .i64 ((n+1:Nat):Int)] (.tup [.agg c.c,.int .i64 7]) []:=by
 have D:fZ c ((n+1:Nat):Int)=true:=by unfold fZ;rw [zdt (show(1:Int)<=((n+1:Nat):Int) by omega),zdt (show((n+1:Nat):Int)<=(c.fr.length:Int) by omega),show(((n+1:Nat):Int)-1).toNat=n by omega,h2];rfl
 have m:=aCX c ((n+1:Nat):Int) hc;rw [D] at m;have E:=aZK u;obtain⟨J,z,T,gr,K,G,N⟩:=c;have W:=hc.fr;dsimp only at *;have e:=cD z n h1;rw [h2] at e;have e:(aQ z).getD n []=u.c:=e;obtain⟨f,j,⟨M,O,F⟩,B,holds,Q,R⟩:=u;dsimp only at *;have e:(aQ z).getD n []=[.int .i64 (f:Int),.int .i64 (j:Int),.str M,.int .i64 (O:Int),.int .i64 (F:Int),.int .i64 (B:Int),.int .i64 (holds:Int),.int .i64 (Q:Int),.int .i64 (R:Int)]:=e
 have H:(Dc.mk J z T gr K G N).c=[.lst 15 false (bF J),.lst 9 false (aQ z),.lst 6 false (aJ T),.lst 3 false (aR gr),.lst 3 false (bA K),.lst 1 false (aB G),.lst 5 false (aP N)]:=rfl;rw [H];rw [H] at m;refine cF Tryz.func43 ?_;refine cL m ?_;rw [bU,aN (n:=((n+1:Nat):Int)-1) (by omega) (by omega),show((n+1:Nat):Int)-1=(n:Int) by omega,show decide (9=9/\0<=(n:Int)/\(n:Int)< (z.length:Int))=true from zdt ⟨rfl,by omega,by omega⟩];rw [zA,e];refine cL E ?_
 cases C:dW ⟨f,j,⟨M,O,F⟩,B,holds,Q,R⟩ with
 |false=> refine Wk ?_;exact Lf
 |true=> rw [C,Bool.true_and,zdn] at hi;refine Wk ?_;rw [show((F:Int) != 0)=true from bne_iff_ne.2 (by omega)];refine Wk ?_;exact Lf
structure OkF(f:Df):Prop where
 E:bG f.E
 sup:Sup f.E
 lo:∀p,-1000001<=(f.E p).1
 size:f.size<=128
 blocks:f.blocks<256
 ec:0<=f.ec/\f.ec<=1000000
 ee:(f.ec=0↔f.ee=0)
structure OkU(c:Dc)(n:Nat)(u:Us):Prop where
 file:u.file<c.fl.length
 page:u.page<8
 pg:fJ u.p
 ten:u.ten<c.gr.length
 holds:u.holds<=255
 rd:u.rd<4
 wr:u.wr<4
 val:((c.fl.getD u.file aX).E u.page).1=((n+1:Nat):Int)
def rS(l:Ls)(x:Int):Prop:=x∈l.A\/x∈l.I
structure Ok(c:Dc):Prop where
 nf:c.fl.length<=3
 nr:c.fr.length<=64
 ng:c.gr.length<=4
 nl:c.ls.length=c.gr.length
 nk:c.ck.length=c.gr.length
 file:∀f,f<c.fl.length->OkF (c.fl.getD f aX)
 use:∀n u,n<c.fr.length->c.fr.getD n none=some u->OkU c n u
 ent:∀f p,f<c.fl.length->0< ((c.fl.getD f aX).E p).1->∃n u,n<c.fr.length/\((c.fl.getD f aX).E p).1=((n+1:Nat):Int)/\c.fr.getD n none=some u/\u.file=f/\u.page=p
 zone:aZ c.zo=true
 free:∀z∈c.zo,∀x∈z.free,∃n,n<c.fr.length/\x=((n+1:Nat):Int)/\c.fr.getD n none=none
 gr:mV c.gr=true
 ls:∀t,t<c.ls.length->eB (c.ls.getD t l0)=true
 mem:∀t x,t<c.ls.length->rS (c.ls.getD t l0) x->∃n u,n<c.fr.length/\x=((n+1:Nat):Int)/\c.fr.getD n none=some u/\u.ten=t
 ck:∀t,0<=c.ck.getD t 0/\c.ck.getD t 0<=1000000
 pt:kP c.pt=true
theorem aYR {α:Type} (f:α->Int)(n:Nat):∀ {l:List α},(l.map f).Nodup->(∀x∈l,0<=f x/\f x<n)->l.length<=n:=by intro l h1 h2;have :=uZ n (l:=l.map f) (lo:=0) h1 (λx e=>by obtain⟨y,j,rfl⟩:=List.mem_map.1 e;have :=h2 y j;omega);simpa using this
def dQ(p:Pt):Int:=p.proc*64+p.page
theorem aMO {l:List Pt} (h:kP l=true):l.length<=512:=by
 have z:∀i,i<l.length->eG (l.getD i p0)=true/\(0<i->eL (l.getD (i-1) p0) (l.getD i p0)=true):=λi e=>by
  have :=iM h e;unfold aA3 at this
  cases h1:eG (l.getD i p0) with
  |false=>rw [h1] at this;cases this
  |true=> rw [h1,zF,zcf] at this;refine⟨rfl,λh0=>?_⟩;rw [zdt (show 0< (i:Int) by omega),zct] at this;simpa using this
 have m:∀i,i<l.length->(0<=(l.getD i p0).proc/\(l.getD i p0).proc<8)/\0<=(l.getD i p0).page/\(l.getD i p0).page<64:=λi e=>by have :=(z i e).1;unfold eG at this;simp only [zE,zG,decide_eq_true_eq] at this;omega
 have f:∀i,i+1<l.length->(l.map dQ).getD i 0< (l.map dQ).getD (i+1) 0:=λi e=>by
  have h1:=(z (i+1) e).2 (by omega);have h2:=m i (by omega);have F:=m (i+1) e;rw [zS] at h1;have e1:(l.map dQ).getD i 0=dQ (l.getD i p0):=by simp [zC,show i<l.length by omega]
  have B:(l.map dQ).getD (i+1) 0=dQ (l.getD (i+1) p0):=by simp [zC,e]
  rw [e1,B];unfold eL at h1;unfold dQ
  by_cases a:(l.getD i p0).proc< (l.getD (i+1) p0).proc
  ·omega
  ·rw [zdf a,zcf] at h1
   by_cases b:(l.getD i p0).proc=(l.getD (i+1) p0).proc
   ·rw [zbe.2 b,zct,decide_eq_true_eq] at h1;omega
   ·rw [show((l.getD i p0).proc==(l.getD (i+1) p0).proc)=false from zbn.2 b] at h1;cases h1
 have j:=aPJ (l:=l.map dQ) (λi e=>f i (by simpa using e));refine aYR dQ 512 (j.imp λh=>by omega) λx E=>?_;obtain⟨i,e,rfl⟩:=zQ E;have h5:=m i e;have C:l.getD i p0=l[i]:=by simp [zC,e]
 rw [C] at h5;have D:dQ l[i]=l[i].proc*64+l[i].page:=rfl;generalize l[i]=y at *;rw [D];omega
theorem Ok.sm {c:Dc} (h:Ok c):SmD c:=⟨by have :=h.nf;omega,h.nr,h.ng,by rw [h.nl];exact h.ng,by rw [h.nk];exact h.ng⟩
theorem Ok.smZ {c:Dc} (h:Ok c):fF c.zo:=jY h.zone
theorem Ok.smL {c:Dc} (h:Ok c)(t:Nat):eA (c.ls.getD t l0):=by
 by_cases e:t<c.ls.length
 ·exact((bX _).1 (h.ls t e)).small
 ·rw [zC,zP (zI e)];exact⟨zN _,zN _,zN _⟩
theorem Ok.ptl {c:Dc} (h:Ok c):c.pt.length<=100000:=by have :=aMO h.pt;omega
theorem Ok.good {c:Dc} (h:Ok c) {n:Nat} {u:Us} (e:n<c.fr.length)(j:c.fr.getD n none=some u):pU c n u:=by have k:=h.use n u e j;have f:=h.file _ k.file;exact⟨e,j,k.file,by have :=k.page;omega,f.E,f.sup,by rw [k.val];omega,k.pg,by rw [h.nl];exact k.ten,k.rd,k.wr⟩
def lC(u:Us):Nat×Nat×Nat:=(u.file,u.page,u.ten)
theorem Ok.same {c d:Dc} (h:Ok c)(M:d.fl.length=c.fl.length)(O:∀f p,((d.fl.getD f aX).E p).1=((c.fl.getD f aX).E p).1)
 (hF:∀f,f<c.fl.length->OkF (d.fl.getD f aX)) (C:d.fr.length=c.fr.length) (T:∀n,(d.fr.getD n none).map lC=(c.fr.getD n none).map lC)
 (hU:∀n u,n<c.fr.length->d.fr.getD n none=some u->fJ u.p/\u.holds<=255/\u.rd<4/\u.wr<4) (hz:d.zo=c.zo) (hg:d.gr=c.gr)
 (B:d.ls.length=c.ls.length) (H:∀t,t<c.ls.length->eB (d.ls.getD t l0)=true) (R:∀t x,rS (d.ls.getD t l0) x->rS (c.ls.getD t l0) x)
 (J:d.ck=c.ck) (W:kP d.pt=true):Ok d:=by
 have F:∀n u,d.fr.getD n none=some u->∃v,c.fr.getD n none=some v/\lC v=lC u:=λn u D=>by
  have :=T n;rw [D] at this
  cases j:c.fr.getD n none with
  |none=>rw [j] at this;cases this
  |some v=>rw [j] at this;exact⟨v,rfl,by injection this with this;exact this.symm⟩
 have m:∀n u,c.fr.getD n none=some u->∃v,d.fr.getD n none=some v/\lC v=lC u:=λn u D=>by
  have :=T n;rw [D] at this
  cases j:d.fr.getD n none with
  |none=>rw [j] at this;cases this
  |some v=>rw [j] at this;exact⟨v,rfl,by injection this with this⟩
 refine⟨by rw [M];exact h.nf,by rw [C];exact h.nr,by rw [hg];exact h.ng,by rw [B,hg];exact h.nl,by rw [J,hg];exact h.nk,λf Q=>hF f (by rw [<-M];exact Q),λn u hn D=>?_,λf p Q hp=>?_,by rw [hz];exact h.zone,λz aa x Z=>?_,by rw [hg];exact h.gr,λt Y=>H t (by rw [<-B];exact Y),λt x Y Z=>?_,by rw [J];exact h.ck,W⟩
 ·obtain⟨v,j,e⟩:=F n u D;have N:=h.use n v (by rw [<-C];exact hn) j;obtain⟨g1,g2,g3,g4⟩:=hU n u (by rw [<-C];exact hn) D;simp only [lC,Prod.mk.injEq] at e;obtain⟨e1,G,K⟩:=e;exact⟨by rw [M,<-e1];exact N.file,by rw [<-G];exact N.page,g1,by rw [hg,<-K];exact N.ten,g2,g3,g4,by rw [O,<-e1,<-G];exact N.val⟩
 ·rw [O] at hp;obtain⟨n,u,k1,k2,k3,k4,k5⟩:=h.ent f p (by rw [<-M];exact Q) hp;obtain⟨v,j,e⟩:=m n u k3;simp only [lC,Prod.mk.injEq] at e;obtain⟨e1,G,K⟩:=e;exact⟨n,v,by rw [C];exact k1,by rw [O];exact k2,j,by rw [e1];exact k4,by rw [G];exact k5⟩
 ·obtain⟨n,k1,k2,k3⟩:=h.free z (by rw [<-hz];exact aa) x Z;refine⟨n,by rw [C];exact k1,k2,?_⟩;have :=T n;rw [k3] at this
  cases j:d.fr.getD n none with
  |none=>rfl
  |some v=>rw [j] at this;cases this
 ·obtain⟨n,u,k1,k2,k3,k4⟩:=h.mem t x (by rw [<-B];exact Y) (R t x Z);obtain⟨v,j,e⟩:=m n u k3;simp only [lC,Prod.mk.injEq] at e;obtain⟨e1,G,K⟩:=e;exact⟨n,v,by rw [C];exact k1,k2,j,by rw [K];exact k4⟩
theorem aE {α:Type} (l:List α)(k:Nat)(x d:α)(h:k<l.length):(l.set k x).getD k d=x:=by simp [zC,h]
theorem getD_set_ne {α:Type} (l:List α) {k j:Nat} (x d:α)(h:j≠k):(l.set k x).getD j d=l.getD j d:=by simp [zC,Ne.symm h]
theorem dI {α:Type} (l:List α) {k:Nat} (x:α)(h:l.length<=k):l.set k x=l:=by
 induction l generalizing k with
 |nil=>rfl
 |cons a l e=>
  cases k with
  |zero=>simp at h
  |succ k=>rw [List.set_cons_succ,e (by simpa using h)]
theorem aAK(f:Df)(E:dD):(hY f E).E=E:=rfl
theorem OkF.hY {f:Df} (h:OkF f) {E:dD} (h1:bG E)(h2:Sup E)(e:∀p,-1000001<=(E p).1):OkF (hY f E):=⟨h1,h2,e,h.size,h.blocks,h.ec,h.ee⟩
theorem aQC(E:dD)(u:Us)(p:Nat):(mE E u p).1=(E p).1:=by unfold mE;rw [tZ,tZ]
theorem Ok.put {c:Dc} (h:Ok c) {n:Nat} {u u':Us} (D:n<c.fr.length)(H:c.fr.getD n none=some u)(G:lC u'=lC u)(O:fJ u'.p)(N:u'.holds<=255)(Q:u'.rd<4)(R:u'.wr<4):Ok (c.put n u'):=by
 have J:=h.use n u D H;simp only [lC,Prod.mk.injEq] at G;obtain⟨e1,F,K⟩:=G;have z:u'.file<c.fl.length:=by rw [e1];exact J.file
 have C:=h.file _ z;have B:=bFW (u:=u') C.E C.sup (by rw [e1,F,J.val];omega);refine h.same (by simp [Dc.put,Dc.mark,Dc.setU]) (λf p=>?_) (λf M=>?_) (by simp [Dc.put,Dc.mark,Dc.setU]) (λm=>?_) (λm v B j=>?_) rfl rfl rfl h.ls (λ_ _ x=>x) rfl h.pt
 ·show(((c.fl.set u'.file (hY (c.fl.getD u'.file aX) (mE (c.fl.getD u'.file aX).E u'))).getD f aX).E p).1=_
  by_cases e:f=u'.file
  ·subst e;rw [aE _ _ _ _ z,aAK,aQC]
  ·rw [getD_set_ne _ _ _ e]
 ·show OkF ((c.fl.set u'.file (hY (c.fl.getD u'.file aX) (mE (c.fl.getD u'.file aX).E u'))).getD f aX)
  by_cases e:f=u'.file
  ·subst e;rw [aE _ _ _ _ z];exact C.hY B.1 B.2 (λp=>by rw [aQC];exact C.lo p)
  ·rw [getD_set_ne _ _ _ e];exact h.file f M
 ·show((c.fr.set n (some u')).getD m none).map lC=_
  by_cases e:m=n
  ·subst e;rw [aE _ _ _ _ D,H];simp [lC,e1,F,K]
  ·rw [getD_set_ne _ _ _ e]
 ·have j:(c.fr.set n (some u')).getD m none=some v:=j
  by_cases e:m=n
  ·subst e;rw [aE _ _ _ _ D] at j;injection j with j;subst j;exact⟨O,N,Q,R⟩
  ·rw [getD_set_ne _ _ _ e] at j;have :=h.use m v B j;exact⟨this.pg,this.holds,this.rd,this.wr⟩
theorem aTQ {l:Ls} (B:eB l=true)(f:Int):eB (oD l f).1=true/\∀x,rS (oD l f).1 x->rS l x:=by
 have j:=(bX l).1 B;unfold oD;rw [B,zF,zcf]
 cases h1:cA f with
 |false=>exact⟨B,λ_ h=>h⟩
 |true=>
  rw [zF,zcf]
  cases h2:lH l f with
  |false=>exact⟨B,λ_ h=>h⟩
  |true=>
   rw [zF,zcf];have z:f∈l.A++l.I:=by simpa [lH] using h2
   have F:=j.known f z
   cases G:decide (f∈l.R) with
   |false=>
    rw [Bool.not_false,zct];have C:f∉l.R:=by simpa using G
    refine⟨(bX _).2 ⟨j.nodup,j.known,?_,λx e=>?_⟩,λ_ h=>h⟩
    ·have H:lF 1 65 l.R:=⟨j.asc,λx e=>by have :=j.known x (j.sub x e);omega⟩;exact(H.ins ⟨F.1,by omega⟩ C).asc
    ·rcases aGW.1 e with rfl |e
     ·exact z
     ·exact j.sub x e
   |true=>
    rw [zF,zcf]
    cases h4:decide (f∈l.I) with
    |false=>exact⟨B,λ_ h=>h⟩
    |true=>
     rw [zct];have m:f∈l.I:=by simpa using h4
     have E:=j.notA m;refine⟨(bX _).2 ⟨?_,λx e=>?_,aM0 j.asc f,λx e=>?_⟩,λx e=>?_⟩
     ·show((f::wo l.A f)++wo l.I f).Nodup;rw [sK E];have D:=List.nodup_append.1 j.nodup;rw [zO,List.nodup_cons];refine⟨λe=>?_,List.nodup_append.2 ⟨D.1,aI2 D.2.1 f,λa J b K=>D.2.2 a J b (dA.1 K).1⟩⟩;rcases List.mem_append.1 e with e |e
      ·exact E e
      ·exact(dA.1 e).2 rfl
     ·have e:x∈(f::wo l.A f)++wo l.I f:=e;rw [zO,zR,zH,dA,dA] at e;rcases e with rfl | ⟨e,_⟩| ⟨e,_⟩
      ·exact F
      ·exact j.known x (List.mem_append_left _ e)
      ·exact j.known x (List.mem_append_right _ e)
     ·have e:x∈wo l.R f:=e;rw [dA] at e;show x∈(f::wo l.A f)++wo l.I f;rw [zO,zR,zH,dA,dA];rcases List.mem_append.1 (j.sub x e.1) with h |h
      ·exact .inr (.inl ⟨h,e.2⟩)
      ·exact .inr (.inr ⟨h,e.2⟩)
     ·unfold rS at e⊢;dsimp only at e;rw [zR,dA,dA] at e;rcases e with (rfl |h)|h
      ·exact .inr m
      ·exact .inl h.1
      ·exact .inr h.1
theorem Ok.acc {c:Dc} (h:Ok c)(n t:Nat):Ok (c.acc n t):=by
 refine h.same rfl (λ_ _=>rfl) h.file rfl (λ_=>rfl) (λm v z B=>?_) rfl rfl (by simp [Dc.acc]) (λs j=>?_) (λs x f=>?_) rfl h.pt
 ·have :=h.use m v z B;exact⟨this.pg,this.holds,this.rd,this.wr⟩
 ·show eB ((c.ls.set t (oD (c.ls.getD t l0) ((n+1:Nat):Int)).1).getD s l0)=true
  by_cases e:s=t
  ·subst e;rw [aE _ _ _ _ j];exact(aTQ (h.ls _ j) _).1
  ·rw [getD_set_ne _ _ _ e];exact h.ls s j
 ·have f:rS ((c.ls.set t (oD (c.ls.getD t l0) ((n+1:Nat):Int)).1).getD s l0) x:=f
  by_cases e:s=t
  ·subst e
   by_cases j:s<c.ls.length
   ·rw [aE _ _ _ _ j] at f;exact(aTQ (h.ls _ j) _).2 x f
   ·rw [dI _ _ (zI j)] at f;exact f
  ·rw [getD_set_ne _ _ _ e] at f;exact f
theorem uU {a b:Pt} (h1:eG a=true)(h2:eG b=true):eL a b=true↔dQ a<dQ b:=by
 unfold eG at h1 h2;simp only [zE,zG,decide_eq_true_eq] at h1 h2;unfold eL dQ
 by_cases e:a.proc<b.proc
 ·rw [zdt e,zct];exact⟨λ_=>by omega,λ_=>rfl⟩
 ·rw [zdf e,zcf]
  by_cases f:a.proc=b.proc
  ·rw [zbe.2 f,zct,decide_eq_true_eq];omega
  ·rw [show(a.proc==b.proc)=false from zbn.2 f,zcf];exact⟨(λh=>by cases h),(λh=>by omega)⟩
theorem aNB(l:List Pt)(i:Nat)(h:i<l.length):l.getD i p0=l[i]:=by simp [zC,h]
theorem kQ(l:List Pt):kP l=true↔(∀x∈l,eG x=true)/\l.Pairwise (λa b=>dQ a<dQ b):=by
 constructor
 ·intro h
  have m:∀i,i<l.length->eG (l.getD i p0)=true/\(0<i->eL (l.getD (i-1) p0) (l.getD i p0)=true):=λi f=>by
   have :=iM h f;unfold aA3 at this
   cases h1:eG (l.getD i p0) with
   |false=>rw [h1] at this;cases this
   |true=> rw [h1,zF,zcf] at this;refine⟨rfl,λh0=>?_⟩;rw [zdt (show 0< (i:Int) by omega),zct] at this;simpa using this
  refine⟨λx C=>?_,?_⟩
  ·obtain⟨i,f,rfl⟩:=zQ C;rw [<-aNB l i f];exact(m i f).1
  ·have j:∀i,i+1<l.length->(l.map dQ).getD i 0< (l.map dQ).getD (i+1) 0:=λi f=>by
    have h1:=(m (i+1) f).2 (by omega);rw [zS,uU (m i (by omega)).1 (m _ f).1] at h1;have e1:(l.map dQ).getD i 0=dQ (l.getD i p0):=by simp [zC,show i<l.length by omega]
    have z:(l.map dQ).getD (i+1) 0=dQ (l.getD (i+1) p0):=by simp [zC,f]
    rw [e1,z];exact h1
   exact List.pairwise_map.1 (aPJ (l:=l.map dQ) (λi f=>j i (by simpa using f)))
 ·intro⟨h1,h2⟩
  have :∀n,n<=l.length->bC (aA3 l) n=true:=by
   intro n
   induction n with
   |zero=>intro _;rfl
   |succ n D=>
    intro E
    have B:aA3 l n=false:=by
     unfold aA3;rw [aNB l n (by omega),h1 _ (zJ (by omega)),zF,zcf]
     by_cases e:0<n
     ·rw [zdt (show 0< (n:Int) by omega),zct,aNB l (n-1) (by omega),(uU (h1 _ (zJ (by omega))) (h1 _ (zJ (by omega)))).2 (List.pairwise_iff_getElem.1 h2 (n-1) n (by omega) (by omega) (by omega))];rfl
     ·rw [zdf (show ¬0< (n:Int) by omega),zcf]
    simp only [bC,D (by omega),B];rfl
  exact this _ (Nat.le_refl _)
theorem aXD {l:List Pt} (h:kP l=true)(f:Int):kP (oK l f)=true:=by unfold oK;rw [h,zct,kQ];have :=(kQ l).1 h;exact⟨λx e=>this.1 x (List.mem_filter.1 e).1,this.2.sublist List.filter_sublist⟩
theorem aRM {g:List Gr} (h:mV g=true) {t:Nat} {n:Int} (m:0<=n)(z:n<=64):mV (aMN g t n)=true:=by
 simp only [mV,zG] at h⊢;rw [tF];refine⟨rY λi j=>?_,h.2⟩;have f:=iM h.1 j;unfold nD aMN at *
 by_cases e:i=t
 ·subst e;rw [aE _ _ _ _ j];simp only [aI6,Bool.or_eq_false_iff,zdn] at f⊢;omega
 ·rw [getD_set_ne _ _ _ e];exact f
theorem bB1 {g:List Gr} (h:mV g=true) {t:Nat} (f:t<g.length):mV (gH g t).1=true/\(gH g t).1.length=g.length:=by
 have j:=aG6 h f;unfold gH
 by_cases e:(g.getD t g0).chg<1
 ·rw [zdt e,zct];exact⟨h,rfl⟩
 ·rw [zdf e,zcf];exact⟨aRM h (by omega) (by omega),tF _ _ _⟩
theorem aUW {l:List Zn} (h:aZ l=true)(f:Int):∀z∈(eT l l f).1,∀x∈z.free,x=f\/∃z∈l,x∈z.free:=by
 have m:=aF1 (base:=l) (f:=f) h;generalize eT l l f=q at m;intro z j x e
 cases m with
 |range _=>exact .inr ⟨z,j,e⟩
 |free _ _ _ _=>exact .inr ⟨z,j,e⟩
 |ok i B C D=>
  rcases List.mem_or_eq_of_mem_set j with j |rfl
  ·exact .inr ⟨z,j,e⟩
  ·rcases aGW.1 e with rfl |e
   ·exact .inl rfl
   ·exact .inr ⟨_,zJ B,e⟩
theorem aT7 {l:Ls} (z:eB l=true) {f:Int} (E:cA f=true):eB (kL l f).1=true/\∀x,rS (kL l f).1 x->rS l x/\x≠f:=by
 have m:=(bX l).1 z;unfold kL;rw [z,zF,zcf,E,zF,zcf]
 cases h2:lH l f with
 |false=>
  rw [Bool.not_false,zct];refine⟨z,λx j=>⟨j,λe=>?_⟩⟩;subst e;have :lH l x=true:=by unfold lH;rcases j with h |h <;> simp [h]
  rw [h2] at this;cases this
 |true=>
  rw [zF,zcf];have B:=List.nodup_append.1 m.nodup;refine⟨(bX _).2 ⟨List.nodup_append.2 ⟨aI2 B.1 f,aI2 B.2.1 f,λa C b D=>B.2.2 a (dA.1 C).1 b (dA.1 D).1⟩,λx j=>?_,aM0 m.asc f,λx j=>?_⟩,λx j=>?_⟩
  ·have j:x∈wo l.A f++wo l.I f:=j;rw [zH,dA,dA] at j;exact m.known x (by rw [zH];rcases j with h |h;exact .inl h.1;exact .inr h.1)
  ·have j:x∈wo l.R f:=j;rw [dA] at j;show x∈wo l.A f++wo l.I f;rw [zH,dA,dA];rcases List.mem_append.1 (m.sub x j.1) with h |h
   ·exact .inl ⟨h,j.2⟩
   ·exact .inr ⟨h,j.2⟩
  ·unfold rS at j⊢;dsimp only at j;rw [dA,dA] at j;rcases j with h |h
   ·exact⟨.inl h.1,h.2⟩
   ·exact⟨.inr h.1,h.2⟩
theorem Ok.clk {c:Dc} (h:Ok c)(t:Nat) {x:Int} (j:0<=x)(h1:x<=1000000):Ok ⟨c.fl,c.fr,c.zo,c.gr,c.ls,c.ck.set t x,c.pt⟩:=by
 refine⟨h.nf,h.nr,h.ng,h.nl,by rw [zD];exact h.nk,h.file,λn u m z=>?_,h.ent,h.zone,h.free,h.gr,h.ls,h.mem,λs=>?_,h.pt⟩
 ·have k:=h.use n u m z;exact⟨k.file,k.page,k.pg,k.ten,k.holds,k.rd,k.wr,k.val⟩
 ·by_cases e:s=t
  ·subst e
   by_cases f:s<c.ck.length
   ·rw [aE _ _ _ _ f];exact⟨j,h1⟩
   ·rw [dI _ _ (zI f)];exact h.ck s
  ·rw [getD_set_ne _ _ _ e];exact h.ck s
theorem Ok.gone {c:Dc} (h:Ok c) {n:Nat} {u:Us} (W:n<c.fr.length)(Y:c.fr.getD n none=some u) {v:Int} (hv:v<=0)(Z: -1000001<=v):Ok (c.gone n u v):=by
 have N:=h.use n u W Y;have R:=h.file _ N.file;have M:cA ((n+1:Nat):Int)=true:=(mX _).2 (by have :=h.nr;omega);have ac:∀z∈(eT c.zo c.zo ((n+1:Nat):Int)).1,∀x∈z.free,x=((n+1:Nat):Int)\/∃z∈c.zo,x∈z.free:=aUW h.zone _;have G:=bB1 h.gr N.ten
 have hE:∀f p,(((c.gone n u v).fl.getD f aX).E p).1=if f=u.file/\p=u.page then v else((c.fl.getD f aX).E p).1:=λf p=>by
  show(((c.fl.set u.file (hY (c.fl.getD u.file aX) (dZ (c.fl.getD u.file aX).E u.page (v,0)))).getD f aX).E p).1=_
  by_cases e:f=u.file
  ·subst e;rw [aE _ _ _ _ N.file,aAK]
   by_cases B:p=u.page
   ·subst B;rw [fR,if_pos ⟨rfl,rfl⟩]
   ·rw [eP B,if_neg (λh=>B h.2)]
  ·rw [getD_set_ne _ _ _ e,if_neg (λh=>e h.1)]
 have D:∀m,(c.gone n u v).fr.getD m none=if m=n then none else c.fr.getD m none:=λm=>by
  show(c.fr.set n none).getD m none=_
  by_cases e:m=n
  ·subst e;rw [aE _ _ _ _ W,if_pos rfl]
  ·rw [getD_set_ne _ _ _ e,if_neg e]
 have j:(c.gone n u v).fr.length=c.fr.length:=zD ..;have C:(c.gone n u v).fl.length=c.fl.length:=zD ..;have H:(c.gone n u v).ls.length=c.ls.length:=zD ..
 refine⟨by rw [C];exact h.nf,by rw [j];exact h.nr,by show(gH c.gr u.ten).1.length<=4;rw [G.2];exact h.ng,by show(c.gone n u v).ls.length=(gH c.gr u.ten).1.length;rw [H,G.2];exact h.nl,by show c.ck.length=(gH c.gr u.ten).1.length;rw [G.2];exact h.nk,λf T=>?_,λm w hm O=>?_,λf p T Q=>?_,aND (iW.refl _) h.zone,λz hz x K=>?_,G.1,λt F=>?_,λt x F K=>?_,h.ck,aXD h.pt _⟩
 ·show OkF ((c.fl.set u.file (hY (c.fl.getD u.file aX) (dZ (c.fl.getD u.file aX).E u.page (v,0)))).getD f aX)
  by_cases e:f=u.file
  ·subst e;rw [aE _ _ _ _ N.file];refine R.hY (R.E.set (Nat.zero_lt_succ _) (λ_=>rfl)) (R.sup.set (by have :=N.page;omega) _) (λp=>?_)
   by_cases B:p=u.page
   ·subst B;rw [fR];exact Z
   ·rw [eP B];exact R.lo p
  ·rw [getD_set_ne _ _ _ e];exact h.file f (by rw [<-C];exact T)
 ·rw [D] at O
  by_cases e:m=n
  ·rw [if_pos e] at O;cases O
  ·rw [if_neg e] at O;have J:=h.use m w (by rw [<-j];exact hm) O;refine⟨by rw [C];exact J.file,J.page,J.pg,by show w.ten< (gH c.gr u.ten).1.length;rw [G.2];exact J.ten,J.holds,J.rd,J.wr,?_⟩;rw [hE,if_neg]
   ·exact J.val
   ·intro⟨e1,B⟩;have :=J.val;rw [e1,B,N.val] at this;omega
 ·rw [hE] at Q⊢
  by_cases e:f=u.file/\p=u.page
  ·rw [if_pos e] at Q;omega
  ·rw [if_neg e] at Q⊢;obtain⟨m,w,k1,k2,k3,k4,k5⟩:=h.ent f p (by rw [<-C];exact T) Q;refine⟨m,w,by rw [j];exact k1,k2,?_,k4,k5⟩;rw [D,if_neg]
   ·exact k3
   ·intro B;subst B;rw [Y] at k3;injection k3 with k3
    subst k3;exact e ⟨k4.symm,k5.symm⟩
 ·rcases ac z hz x K with rfl | ⟨z',ab,aa⟩
  ·exact⟨n,by rw [j];exact W,rfl,by rw [D,if_pos rfl]⟩
  ·obtain⟨m,k1,k2,k3⟩:=h.free z' ab x aa;refine⟨m,by rw [j];exact k1,k2,?_⟩;rw [D];split
   ·rfl
   ·exact k3
 ·have F:t<c.ls.length:=by rw [<-H];exact F
  show eB ((c.ls.set u.ten (kL (c.ls.getD u.ten l0) ((n+1:Nat):Int)).1).getD t l0)=true
  by_cases e:t=u.ten
  ·subst e;rw [aE _ _ _ _ F];exact(aT7 (h.ls _ F) M).1
  ·rw [getD_set_ne _ _ _ e];exact h.ls t F
 ·have F:t<c.ls.length:=by rw [<-H];exact F
  have K:rS ((c.ls.set u.ten (kL (c.ls.getD u.ten l0) ((n+1:Nat):Int)).1).getD t l0) x:=K
  by_cases e:t=u.ten
  ·subst e;rw [aE _ _ _ _ F] at K;obtain⟨g1,g2⟩:=(aT7 (h.ls _ F) M).2 x K;obtain⟨m,w,k1,k2,k3,k4⟩:=h.mem _ x F g1;refine⟨m,w,by rw [j];exact k1,k2,?_,k4⟩;rw [D,if_neg]
   ·exact k3
   ·intro B;subst B;exact g2 k2
  ·rw [getD_set_ne _ _ _ e] at K;obtain⟨m,w,k1,k2,k3,k4⟩:=h.mem t x F K;refine⟨m,w,by rw [j];exact k1,k2,?_,k4⟩;rw [D,if_neg]
   ·exact k3
   ·intro B;subst B;rw [Y] at k3;injection k3 with k3
    subst k3;exact e k4.symm
theorem Ok.evi {c:Dc} (h:Ok c) {n:Nat} {u:Us} (e:n<c.fr.length)(f:c.fr.getD n none=some u):Ok (c.evi n u):=by have j:=h.ck u.ten;exact(h.gone e f (by omega) (by omega)).clk _ (by omega) (by omega)
theorem aR4(c:Dc)(n:Int):fZ c n=false\/∃(m:Nat) (u:Us),n=((m+1:Nat):Int)/\m<c.fr.length/\c.fr.getD m none=some u:=by
 cases h:fZ c n with
 |false=>exact .inl rfl
 |true=> refine .inr ?_;unfold fZ at h;simp only [zE,zG,decide_eq_true_eq] at h;obtain⟨⟨h1,h2⟩,e⟩:=h;obtain⟨u,f⟩:=Option.isSome_iff_exists.1 e;exact⟨(n-1).toNat,u,by omega,by omega,f⟩
theorem mU {c:Dc} {n:Nat} {u:Us} (h1:n<c.fr.length)(h2:c.fr.getD n none=some u):fZ c ((n+1:Nat):Int)=true:=by unfold fZ;rw [zdt (show(1:Int)<=((n+1:Nat):Int) by omega),zdt (show((n+1:Nat):Int)<=(c.fr.length:Int) by omega),show(((n+1:Nat):Int)-1).toNat=n by omega,h2];rfl
theorem bPK(c:Dc)(n k:Int)(hc:SmD c)(f:fZ c n=false):aM Tryz.prog 45 [] [.agg c.c,.int .i64 n,.int .i64 k] (.tup [.agg c.c,.int .i64 2]) []:=by have e:=aCX c n hc;rw [f] at e;obtain⟨m,z,D,gr,B,j,C⟩:=c;refine cF Tryz.func45 ?_;refine cL e ?_;exact Lf
def aGD(u:Us)(h:Nat):Us:=⟨u.file,u.page,u.p,u.ten,h,u.rd,u.wr⟩
theorem bRP(c:Dc)(n:Nat)(u:Us)(hc:SmD c)(h:pU c n u)(hh:u.holds<=255)(k:Int)(W: -255<=k/\k<=255)(h0:0<=(u.holds:Int)+k)(H:(u.holds:Int)+k<=255)(C:pU (c.setU n (aGD u ((u.holds:Int)+k).toNat)) n (aGD u ((u.holds:Int)+k).toNat)):
 aM Tryz.prog 45 [] [.agg c.c,.int .i64 ((n+1:Nat):Int),.int .i64 k] (.tup [.agg (c.put n (aGD u ((u.holds:Int)+k).toNat)).c,.int .i64 0]) []:=by
 have h1:=h.at_;have h2:=h.get;have j:=aCX c ((n+1:Nat):Int) hc;rw [mU h1 h2] at j;have T:=hc.fr;have f:=cD c.fr n h1;rw [h2] at f;have e:=aZ1 c n (aGD u ((u.holds:Int)+k).toNat) hc C;generalize c.put n (aGD u ((u.holds:Int)+k).toNat)=d at *;unfold Us.c aGD at e;dsimp only at e;rw [show((((u.holds:Int)+k).toNat:Nat):Int)=(u.holds:Int)+k by omega] at e;obtain⟨G,B,M,gr,J,E,K⟩:=c;obtain⟨m,z,⟨Z,pv,pd⟩,D,holds,rd,wr⟩:=u
 have f:(aQ B).getD n []=[.int .i64 (m:Int),.int .i64 (z:Int),.str Z,.int .i64 (pv:Int),.int .i64 (pd:Int),.int .i64 (D:Int),.int .i64 (holds:Int),.int .i64 (rd:Int),.int .i64 (wr:Int)]:=f;have F:(Dc.mk G B M gr J E K).c=[.lst 15 false (bF G),.lst 9 false (aQ B),.lst 6 false (aJ M),.lst 3 false (aR gr),.lst 3 false (bA J),.lst 1 false (aB E),.lst 5 false (aP K)]:=rfl;rw [F] at j;dsimp only at *;rw [F] at e⊢;obtain⟨O,Q,ab,R,Y,N,aa⟩:=d
 refine cF Tryz.func45 ?_;refine cL j ?_;rw [bU,aN (n:=((n+1:Nat):Int)-1) (by omega) (by omega),show((n+1:Nat):Int)-1=(n:Int) by omega,show decide (9=9/\0<=(n:Int)/\(n:Int)< (B.length:Int))=true from zdt ⟨rfl,by omega,by omega⟩];rw [zA,f];refine Wk ?_
 rw [aN (n:=(holds:Int)+k) (by omega) (by omega),show decide (k< -255)=false from zdf (by omega),show decide (255<k)=false from zdf (by omega),show decide ((holds:Int)+k<0)=false from zdf (by omega),show decide (255< (holds:Int)+k)=false from zdf (by omega)];refine Wk ?_;rw [aN (n:=(holds:Int)+k) (by omega) (by omega)];refine cL e ?_
 try subst W
 exact Lf
theorem bPI(c:Dc)(n:Nat)(u:Us)(hc:SmD c)(h:pU c n u)(hh:u.holds<=255)(k:Int)(Q:¬((-255<=k/\k<=255)/\0<=(u.holds:Int)+k/\(u.holds:Int)+k<=255)):
 aM Tryz.prog 45 [] [.agg c.c,.int .i64 ((n+1:Nat):Int),.int .i64 k] (.tup [.agg c.c,.int .i64 1]) []:=by
 have h1:=h.at_;have h2:=h.get;have f:=aCX c ((n+1:Nat):Int) hc;rw [mU h1 h2] at f;have O:=hc.fr;have e:=cD c.fr n h1;rw [h2] at e;obtain⟨J,z,N,gr,K,G,M⟩:=c;obtain⟨j,m,⟨R,W,T⟩,C,holds,Y,Z⟩:=u;have e:(aQ z).getD n []=[.int .i64 (j:Int),.int .i64 (m:Int),.str R,.int .i64 (W:Int),.int .i64 (T:Int),.int .i64 (C:Int),.int .i64 (holds:Int),.int .i64 (Y:Int),.int .i64 (Z:Int)]:=e
 have H:(Dc.mk J z N gr K G M).c=[.lst 15 false (bF J),.lst 9 false (aQ z),.lst 6 false (aJ N),.lst 3 false (aR gr),.lst 3 false (bA K),.lst 1 false (aB G),.lst 5 false (aP M)]:=rfl;rw [H] at f;dsimp only at *;rw [H]
 have B:(bif bif bif decide (k< -255) then true else decide (255<k) then true else decide (IntKind.i64.wrap ((holds:Int)+k)<0) then true else decide (255<IntKind.i64.wrap ((holds:Int)+k)))=true:=by
  by_cases D:k< -255
  ·rw [zdt D];rfl
  by_cases E:255<k
  ·rw [zdt E];cases decide (k< -255)<;> rfl
  rw [zdf D,zdf E,aN (n:=(holds:Int)+k) (by omega) (by omega)]
  by_cases F:(holds:Int)+k<0
  ·rw [zdt F];rfl
  rw [zdf F,zdt (show 255< (holds:Int)+k by omega)];rfl
 refine cF Tryz.func45 ?_;refine cL f ?_;rw [bU,aN (n:=((n+1:Nat):Int)-1) (by omega) (by omega),show((n+1:Nat):Int)-1=(n:Int) by omega,show decide (9=9/\0<=(n:Int)/\(n:Int)< (z.length:Int))=true from zdt ⟨rfl,by omega,by omega⟩];rw [zA,e];refine Wk ?_;rw [B];refine Wk ?_
 try subst Q
 exact Lf
theorem bPM(c:Dc)(n k:Int)(hc:SmD c)(f:fZ c n=false):aM Tryz.prog 47 [] [.agg c.c,.int .i64 n,.int .i64 k] (.tup [.agg c.c,.int .i64 2]) []:=by have e:=aCX c n hc;rw [f] at e;obtain⟨m,z,D,gr,B,j,C⟩:=c;refine cF Tryz.func47 ?_;refine cL e ?_;exact Lf
def aDY(u:Us)(r:Nat):Us:=⟨u.file,u.page,u.p,u.ten,u.holds,r,u.wr⟩
theorem bRQ(c:Dc)(n:Nat)(u:Us)(hc:SmD c)(h:pU c n u)(k:Nat)(hk:1<=k/\k<=3)(hz:k &&& (u.p.v ||| u.rd)=0)(D:pU (c.setU n (aDY u (u.rd ||| k))) n (aDY u (u.rd ||| k))):
 aM Tryz.prog 47 [] [.agg c.c,.int .i64 ((n+1:Nat):Int),.int .i64 (k:Int)] (.tup [.agg (c.put n (aDY u (u.rd ||| k))).c,.int .i64 0]) []:=by
 have h1:=h.at_;have h2:=h.get;have j:=aCX c ((n+1:Nat):Int) hc;rw [mU h1 h2] at j;have Z:=hc.fr;have f:=cD c.fr n h1;rw [h2] at f;have e:=aZ1 c n (aDY u (u.rd ||| k)) hc D
 have F:=h.pg.v;have E:=h.rd;generalize c.put n (aDY u (u.rd ||| k))=d at *
 unfold Us.c aDY at e;dsimp only at e;obtain⟨M,B,Q,gr,N,J,O⟩:=c;obtain⟨m,z,⟨pb,G,pd⟩,H,holds,C,wr⟩:=u;have f:(aQ B).getD n []=[.int .i64 (m:Int),.int .i64 (z:Int),.str pb,.int .i64 (G:Int),.int .i64 (pd:Int),.int .i64 (H:Int),.int .i64 (holds:Int),.int .i64 (C:Int),.int .i64 (wr:Int)]:=f
 have K:(Dc.mk M B Q gr N J O).c=[.lst 15 false (bF M),.lst 9 false (aQ B),.lst 6 false (aJ Q),.lst 3 false (aR gr),.lst 3 false (bA N),.lst 1 false (aB J),.lst 5 false (aP O)]:=rfl;rw [K] at j;dsimp only at *;rw [K] at e⊢;obtain⟨T,W,ad,Y,ab,R,ac⟩:=d;refine cF Tryz.func47 ?_;refine cL j ?_
 rw [bU,aN (n:=((n+1:Nat):Int)-1) (by omega) (by omega),show((n+1:Nat):Int)-1=(n:Int) by omega,show decide (9=9/\0<=(n:Int)/\(n:Int)< (B.length:Int))=true from zdt ⟨rfl,by omega,by omega⟩];rw [zA,f];refine Wk ?_;have aa:G ||| C<4:=zU (n:=2) F E
 rw [fP (x:=G) (y:=C) (by omega) (by omega),aC1 (by omega) (by omega),hz,show decide ((k:Int)<1)=false from zdf (by omega),show decide (3< (k:Int))=false from zdf (by omega)];refine Wk ?_;rw [fP (x:=C) (y:=k) (by omega) (by omega)];refine cL e ?_
 try subst hk
 exact Lf
theorem bPL(c:Dc)(n:Nat)(u:Us)(hc:SmD c)(h:pU c n u)(k:Int)(F:¬((1<=k/\k<=3)/\k.toNat &&& (u.p.v ||| u.rd)=0)):
 aM Tryz.prog 47 [] [.agg c.c,.int .i64 ((n+1:Nat):Int),.int .i64 k] (.tup [.agg c.c,.int .i64 1]) []:=by
 have h1:=h.at_;have h2:=h.get;have j:=aCX c ((n+1:Nat):Int) hc;rw [mU h1 h2] at j;have Z:=hc.fr;have f:=cD c.fr n h1;rw [h2] at f;have H:=h.pg.v;have G:=h.rd;obtain⟨R,E,Y,gr,T,O,W⟩:=c;obtain⟨z,B,⟨pb,C,pd⟩,K,holds,D,wr⟩:=u;have f:(aQ E).getD n []=[.int .i64 (z:Int),.int .i64 (B:Int),.str pb,.int .i64 (C:Int),.int .i64 (pd:Int),.int .i64 (K:Int),.int .i64 (holds:Int),.int .i64 (D:Int),.int .i64 (wr:Int)]:=f
 have Q:(Dc.mk R E Y gr T O W).c=[.lst 15 false (bF R),.lst 9 false (aQ E),.lst 6 false (aJ Y),.lst 3 false (aR gr),.lst 3 false (bA T),.lst 1 false (aB O),.lst 5 false (aP W)]:=rfl;rw [Q] at j;dsimp only at *;rw [Q];refine cF Tryz.func47 ?_;refine cL j ?_;rw [bU,aN (n:=((n+1:Nat):Int)-1) (by omega) (by omega),show((n+1:Nat):Int)-1=(n:Int) by omega,show decide (9=9/\0<=(n:Int)/\(n:Int)< (E.length:Int))=true from zdt ⟨rfl,by omega,by omega⟩];rw [zA,f];refine Wk ?_
 have aa:C ||| D<4:=zU (n:=2) H G
 have J:(bif bif decide (k<1) then true else decide (3<k) then true else fX BinOp.and IntKind.i64 k (fX BinOp.or IntKind.i64 (C:Int) (D:Int)) != 0)=true:=by
  by_cases M:k<1
  ·rw [zdt M];rfl
  by_cases N:3<k
  ·rw [zdt N];cases decide (k<1)<;> rfl
  obtain⟨m,rfl⟩:∃m:Nat,k=(m:Int):=⟨k.toNat,by omega⟩;rw [zA] at F;rw [zdf M,zdf N,fP (x:=C) (y:=D) (by omega) (by omega),aC1 (by omega) (by omega)];have :m &&& (C ||| D)≠0:=λe=>F ⟨⟨by omega,by omega⟩,e⟩
  simp only [zcf,bne_iff_ne];omega
 rw [J];refine Wk ?_
 try subst F
 exact Lf
attribute [simp] aA bU cJ aF aL bT bR
theorem qW {c:Dc} {n:Nat} {u:Us} (h1:n<c.fr.length)(h2:c.fr.getD n none=some u):(aQ c.fr).getD n []=u.c:=by rw [cD c.fr n h1,h2];rfl
theorem vS {c:Dc} {f:Nat} (h1:f<c.fl.length):(bF c.fl).getD f []=(c.fl.getD f aX).c:=gX c.fl f h1
theorem Ok.use70 {c:Dc} (h:Ok c) {n:Nat} {u:Us} (h1:n<c.fr.length)(h2:c.fr.getD n none=some u):aM Tryz.prog 70 [] [.agg c.c,.int .i64 ((n+1:Nat):Int)] (.bool true) []:=by
 have :=aCX c ((n+1:Nat):Int) h.sm
 rwa [mU h1 h2] at this
end Go.Proofs.YtmhapcbjjpadnaaGreat
