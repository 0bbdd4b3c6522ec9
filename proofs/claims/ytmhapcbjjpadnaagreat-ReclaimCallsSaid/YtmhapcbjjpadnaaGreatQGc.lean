/- Caches. -/
import Derived.Test.YtmhapcbjjpadnaaGreatQEc
import Derived.Test.YtmhapcbjjpadnaaGreatGMc
import Derived.Test.YtmhapcbjjpadnaaGreatQFc
set_option linter.all false
set_option maxHeartbeats 8000000
set_option maxRecDepth 40000
open Int renaming toNat_natCast→zA
open List renaming not_mem_nil→zC
namespace Go.Proofs.YtmhapcbjjpadnaaGreat
open Go Go.Sk Go.RowKit
def exT(c:Dc)(t:Nat):Int:=iF (c.gr.getD t g0)
def aIY(c:Dc):List Int:=bif decide (exT c 0<exT c 1) then [1,0] else [0,1]
theorem two {l:List Gr} (h:l.length=2):∃x y,l=[x,y]:=by
 match l,h with
 | [x,y],_=>exact⟨x,y,rfl⟩
theorem bOC(c:Dc)(h:mY c.gr=true)(h2:c.gr.length=2):aM Tryz.prog 103 [] [.int .i64 1,.int .i64 0,.rp 7 c.c 0] (.int .i64 (aGN (exT c 0) (exT c 1))) []:=by
 obtain⟨f,j⟩:=uA h (show 0<c.gr.length by omega);obtain⟨m,z⟩:=uA h (show 1<c.gr.length by omega);have B:=aZQ (c.gr.getD 0 g0) f j;have C:=aZQ (c.gr.getD 1 g0) m z;have D:=aZP (exT c 0) (exT c 1);unfold exT at *;obtain⟨H,J,N,gr,K,E,M⟩:=c;obtain⟨x,y,e⟩:=two h2;have e:gr=[x,y]:=e;subst e;have B:aM Tryz.prog 105 [] [.agg x.c] (.int .i64 (iF x)) []:=B;have C:aM Tryz.prog 105 [] [.agg y.c] (.int .i64 (iF y)) []:=C
 have D:aM Tryz.prog 104 [] [.int .i64 (iF x),.int .i64 (iF y)] (.int .i64 (aGN (iF x) (iF y))) []:=D;show aM Tryz.prog 103 [] [.int .i64 1,.int .i64 0,.rp 7 _ 0] (.int .i64 (aGN (iF x) (iF y))) [];clear f j m z h h2;generalize iF x=F at *;generalize iF y=G at *;refine aE (ob0:= []) [] Tryz.func103 rfl rfl rfl rfl ?_;exact kK
noncomputable def bIA:Rsv Tryz.prog Tryz.f289 [] 4:=⟨_,_,rfl,rfl⟩
theorem bKF(c:Dc):aM Tryz.prog 289 [.row 1 (aB [0]),.box c.c] [.sl 0 0 1,.int .i64 0,.int .i64 1,.fn 103 [.ptr 1 0 0]] (.tup []) [.row 1 (aB [0]),.box c.c]:=by
 refine cX bIA (ob0:= [_,_]) Tryz.func289 rfl rfl rfl ?_;refine Wy ?_;refine Lp (λ_:Unit=>True) (λ_=> [(8,.int .i64 1)]) (λ_=> [(0,.row 1 (aB [0]))]) (λ_=>0) () trivial ?_ ?_
 ·exact Vr [_,_]
 intro i e;refine Wy ?_;exact Lo2
theorem bKG(c:Dc)(h:mY c.gr=true)(h2:c.gr.length=2):aM Tryz.prog 289 [.row 1 (aB [0,1]),.box c.c] [.sl 0 0 2,.int .i64 0,.int .i64 2,.fn 103 [.ptr 1 0 0]] (.tup []) [.row 1 (aB (aIY c)),.box c.c]:=by
 have e:=bOC c h h2;generalize j:aIY c=R;unfold aIY at j;unfold aGN at e
 by_cases m:exT c 0<exT c 1
 ·rw [zdt m,zct] at e j;subst j;refine cX bIA (ob0:= [_,_]) Tryz.func289 rfl rfl rfl ?_;refine Wy ?_;refine Lp (λ_:Bool=>True) (λb=> [(8,.int .i64 (bif b then 2 else 1))]) (λb=> [(0,.row 1 (aB (bif b then [1,0] else [0,1])))]) (λb=>bif b then 0 else 1) false trivial ?_ ?_
  ·exact Vr [_,_]
  intro b B
  cases b with
  |true=> dsimp only [zct];refine Wy ?_;exact Lo2
  |false=>
   dsimp only [zcf];refine Wy ?_;refine Lp (λ_:Bool=>True) (λb=> [(9,.int .i64 (bif b then 0 else 1))]) (λb=> [(0,.row 1 (aB (bif b then [1,0] else [0,1])))]) (λb=>bif b then 0 else 1) false trivial ?_ ?_
   ·exact Vr [_,_]
   intro b _
   cases b with
   |true=>
    dsimp only [zct];refine Wy ?_;refine And.intro ⟨_,Tryz.func103,rfl,rfl⟩ ?_;refine Wy ?_;refine Le true (hI:=?_) (hv:=?_) (hm:=?_)
    ·exact trivial
    ·exact Vr [_,_]
    ·decide
   |false=>
    dsimp only [zcf];refine Wy ?_;refine And.intro ⟨_,Tryz.func103,rfl,rfl⟩ ?_;refine .inl ⟨_,λ_=>⟨λv f=>?_,e⟩,.inr rfl,?_⟩
    ·have f:v∈ [V.int .i64 1,V.int .i64 0,V.ptr 1 0 0]:=f;simp only [List.mem_cons,zC,or_false] at f;rcases f with rfl |rfl |rfl <;> first |trivial |rfl
    refine Wy ?_;refine Le true (hI:=?_) (hv:=?_) (hm:=?_)
    ·exact trivial
    ·exact Vr [_,_]
    ·decide
 ·rw [zdf m,zcf] at e j;subst j
  have C:(bif decide (exT c 1<exT c 0) then(1:Int) else 0)=0\/(bif decide (exT c 1<exT c 0) then(1:Int) else 0)=1:=by
   cases decide (exT c 1<exT c 0)<;> simp
  generalize(bif decide (exT c 1<exT c 0) then(1:Int) else 0)=z at *;have C:0<=z:=by omega
  refine cX bIA (ob0:= [_,_]) Tryz.func289 rfl rfl rfl ?_;refine Wy ?_;refine Lp (λ_:Bool=>True) (λb=> [(8,.int .i64 (bif b then 2 else 1))]) (λb=> [(0,.row 1 (aB (bif b then [0,1] else [0,1])))]) (λb=>bif b then 0 else 1) false trivial ?_ ?_
  ·exact Vr [_,_]
  intro b B
  cases b with
  |true=> dsimp only [zct];refine Wy ?_;exact Lo2
  |false=>
   dsimp only [zcf];refine Wy ?_;refine Lp (λ_:Unit=>True) (λb=> [(9,.int .i64 1)]) (λb=> [(0,.row 1 (aB [0,1]))]) (λb=>0) () trivial ?_ ?_
   ·exact Vr [_,_]
   intro b _;refine Wy ?_;refine And.intro ⟨_,Tryz.func103,rfl,rfl⟩ ?_;refine .inl ⟨_,λ_=>⟨λv f=>?_,e⟩,.inr rfl,?_⟩
   ·have f:v∈ [V.int .i64 1,V.int .i64 0,V.ptr 1 0 0]:=f;simp only [List.mem_cons,zC,or_false] at f;rcases f with rfl |rfl |rfl <;> first |trivial |rfl
   refine Wy ?_;refine Le true (hI:=?_) (hv:=?_) (hm:=?_)
   ·exact trivial
   ·exact Vr [_,_]
   ·decide
def bM(c:Dc):List Int:=bif c.gr.length==2 then aIY c else [0]
noncomputable def bM2:Rsv Tryz.prog Tryz.f207 [] 3:=⟨_,_,rfl,rfl⟩
noncomputable def bS8:Rsv Tryz.prog Tryz.f102 [] 2:=⟨_,_,rfl,rfl⟩
theorem bP8(c:Dc)(h:mY c.gr=true)(k:Nat)(f:k=1\/k=2)(h2:c.gr.length=k):aM Tryz.prog 207 [.row 1 (aB ((List.range k).map Int.ofNat)),.box c.c] [.sl 0 0 k,.int .i64 (k:Int),.fn 103 [.ptr 1 0 0]] (.tup []) [.row 1 (aB (bM c)),.box c.c]:=by
 unfold bM;rw [h2];rcases f with rfl |rfl
 ·have e:=bKF c;show aM Tryz.prog 207 [.row 1 (aB [0]),.box c.c] [.sl 0 0 1,.int .i64 1,.fn 103 [.ptr 1 0 0]] (.tup []) [.row 1 (aB [0]),.box c.c];refine cX bM2 (ob0:= [_,_]) Tryz.func207 rfl rfl rfl ?_;refine Wy ?_;refine Lp (λ_:Unit=>True) (λb=> [(7,.int .i64 0),(8,.int .i64 20)]) (λb=> []) (λb=>0) () trivial ?_ ?_
  ·exact Vr [_,_]
  intro b _;refine Wy ?_;refine Lp (λ_:Unit=>True) (λb=> [(6,.int .i64 20)]) (λb=> []) (λb=>0) () trivial ?_ ?_
  ·exact Vr [_,_]
  intro b _;exact Wo2
 ·have e:=bKG c h h2;show aM Tryz.prog 207 [.row 1 (aB [0,1]),.box c.c] [.sl 0 0 2,.int .i64 2,.fn 103 [.ptr 1 0 0]] (.tup []) [.row 1 (aB (aIY c)),.box c.c];generalize aIY c=R at *;refine cX bM2 (ob0:= [_,_]) Tryz.func207 rfl rfl rfl ?_;refine Wy ?_;refine Lp (λ_:Unit=>True) (λb=> [(7,.int .i64 0),(8,.int .i64 20)]) (λb=> []) (λb=>0) () trivial ?_ ?_
  ·exact Vr [_,_]
  intro b _;refine Wy ?_;refine Lp (λ_:Unit=>True) (λb=> [(6,.int .i64 20)]) (λb=> []) (λb=>0) () trivial ?_ ?_
  ·exact Vr [_,_]
  intro b _;exact Wo2
theorem bOB(c:Dc)(h:mY c.gr=true)(k:Nat)(f:k=1\/k=2)(h2:c.gr.length=k):aM Tryz.prog 102 [.row 1 (aB ((List.range k).map Int.ofNat)),.box c.c] [.sl 0 0 k,.fn 103 [.ptr 1 0 0]] (.tup []) [.row 1 (aB (bM c)),.box c.c]:=by have e:=bP8 c h k f h2;generalize bM c=R at *;refine cX bS8 (ob0:= [_,_]) Tryz.func102 rfl rfl rfl ?_;exact Wo2
def uU(c:Dc)(D:List Int):Nat->Dc×Int
 |0=>(c,0)
 |t+1=>((jE (uU c D t).1 t (D.getD t 0)).1,(uU c D t).2+(jE (uU c D t).1 t (D.getD t 0)).2)
def lP(s:Dc×Int)(n:Int):Nat->Dc×Int
 |0=>s
 |t+1=>((jE (lP s n t).1 t (n- (lP s n t).2)).1,(lP s n t).2+(jE (lP s n t).1 t (n- (lP s n t).2)).2)
def bET(c:Dc)(n:Nat):Dc×Int:=lP (uU (gW c c.fr.length) (lA c.gr n 2).1 c.gr.length) (n:Int) c.gr.length
def qC(c:Dc)(n:Int):Dc×Int:=bif decide (n<1) then(c.x,0) else bET c n.toNat
theorem aMM {c:Dc} (h:Ok c) {t:Nat} (m:t<c.gr.length)(n:Int):Ok (jE c t n).1/\(jE c t n).1.gr.length=c.gr.length/\(jE c t n).1.fr.length=c.fr.length/\0<=(jE c t n).2/\(jE c t n).2<=200/\(1<=n->(jE c t n).2<=n)/\(n<1->(jE c t n).2=0):=by
 unfold jE
 by_cases j:n<1
 ·rw [zdt j,zct];exact⟨h.x,rfl,rfl,Int.le_refl _,by show(0:Int)<=200;omega,λa=>by omega,λ_=>rfl⟩
 ·rw [zdf j,zcf];have e:=aLU (c:=c.x) h.x (t:=t) m (n:=n) (by omega) 2;have z:t< (cR c.x t n 2).1.ls.length:=by rw [e.ok.nl,e.gr];exact m
  have f:=((bF _).1 (e.ok.ls t z)).len;rw [List.length_append] at f;have k:=aKS (a:=((cR c.x t n 2).1.ls.getD t l0).A) e ((cR c.x t n 2).1.ls.getD t l0).A.length;have :=k.hi;exact⟨k.ok,k.gr,k.fr,k.lo,by omega,λ_=>k.le,λa=>by omega⟩
theorem aPT {c:Dc} {t:Nat} (e:t<c.gr.length)(n:Int):aDW c (t:Int) n=jE c t n:=by unfold aDW;rw [zdt (show 0<=(t:Int)/\(t:Int)< (c.gr.length:Int) by omega),zct,zA]
structure ShS(c:Dc)(s:Dc×Int)(b:Int):Prop where
 ok:Ok s.1
 gr:s.1.gr.length=c.gr.length
 fr:s.1.fr.length=c.fr.length
 lo:0<=s.2
 hi:s.2<=b
theorem ShS.trim {c:Dc} {s:Dc×Int} {b:Int} (h:ShS c s b) {t:Nat} (e:t<c.gr.length)(n:Int):ShS c ((jE s.1 t n).1,s.2+(jE s.1 t n).2) (b+200):=by obtain⟨k1,k2,k3,k4,f,-,-⟩:=aMM h.ok (t:=t) (by rw [h.gr];exact e) n;have :=h.lo;have :=h.hi;exact⟨k1,k2.trans h.gr,k3.trans h.fr,by dsimp only;omega,by dsimp only;omega⟩
theorem ShS.wid {c:Dc} {s:Dc×Int} {b f:Int} (h:ShS c s b)(e:b<=f):ShS c s f:=⟨h.ok,h.gr,h.fr,h.lo,by have :=h.hi;omega⟩
theorem aMA {c:Dc} (h:Ok c)(D:List Int):∀t,t<=c.gr.length->ShS c (uU c D t) (200*t)
 |0,_=>⟨h,rfl,rfl,Int.le_refl _,by show(0:Int)<=_;omega⟩
 |t+1,e=>((aMA h D t (by omega)).trim (by omega) _).wid (by omega)
theorem aMB {c:Dc} {s:Dc×Int} {b:Int} (h:ShS c s b)(n:Int):∀t,t<=c.gr.length->ShS c (lP s n t) (b+200*t)
 |0,_=>h.wid (by omega)
 |t+1,e=>((aMB h n t (by omega)).trim (by omega) _).wid (by omega)
noncomputable def R21:Rsv Tryz.prog Tryz.f21 [] 2:=⟨_,_,rfl,rfl⟩
theorem bP9(c:Dc)(h:Ok c)(n:Int)(hn:n<=64):aM Tryz.prog 21 [] [.agg c.c,.int .i64 n] (.tup [.agg (qC c n).1.c,.int .i64 (qC c n).2]) []:=by
 generalize m:qC c n=q;unfold qC at m
 by_cases M:n<1
 ·rw [zdt M,zct] at m;subst m;have F:=bDS c h;unfold Dc.b Dc.x at F;unfold Dc.c Dc.x;dsimp only at F⊢;refine fnZ R21 Tryz.func21 ?_;exact kK
 rw [zdf M,zcf] at m;obtain⟨n,rfl⟩:∃j:Nat,n=(j:Int):=⟨n.toNat,by omega⟩;rw [zA] at m;have ah:=bK1 c h;have a:=aKT h c.fr.length;have B:(gW c c.fr.length).gr=c.gr:=by rw [(aCO c c.fr.length).1]
 have ae:=h.ng;have E:=bJM c.gr h.gr n (by omega);have N:=aFN c.gr n 2;unfold bET at m;generalize(lA c.gr n 2).1=D at *;generalize(lA c.gr n 2).2=dn at *;generalize gW c c.fr.length=A at *;have Q:=N.len;have Z:(aB D).length=D.length:=aA _;have Y:A.gr.length=c.gr.length:=by rw [B]
 rw [<-B] at E;refine fnZ R21 Tryz.func21 ?_;refine Wy ?_;refine Lp (λt:Nat=>t<=c.gr.length) (λt=> [(29,.int .i64 (t:Int)),(7,.int .i64 (uU A D t).2)]) (λt=> [(2,.box (uU A D t).1.c)]) (λt=>c.gr.length-t) 0 (Nat.zero_le _) ?_ ?_
 ·exact Vr [some 0,some 1,some 2]
 intro t ht;have C:=aMA a D t (by omega);have f:uU A D (t+1)=((jE (uU A D t).1 t (D.getD t 0)).1,(uU A D t).2+(jE (uU A D t).1 t (D.getD t 0)).2):=rfl;have ad:=C.lo;have ac:=C.hi;have G:=C.ok;have af:=C.gr
 by_cases b:t<c.gr.length
 ·have ab:(aB D).getD t []=[.int .i64 (D.getD t 0)]:=aC9 (by omega);have hb:=N.bd t;have z:=aZV (uU A D t).1 G (t:Int) (D.getD t 0);rw [aPT (by omega)] at z;obtain⟨-,-,-,J,K,-,-⟩:=aMM G (t:=t) (by omega) (D.getD t 0);generalize jE (uU A D t).1 t (D.getD t 0)=T at *;generalize uU A D t=S at *;refine Wy ?_;refine Le (t+1) (hv:=?_);simp only [f];exact Vr [some 0,some 1,some 2]
 ·obtain rfl:t=c.gr.length:=by omega
  clear f;generalize uU A D c.gr.length=S at *;have aa:(aQ S.1.gr).length=c.gr.length:=by rw [aL];omega
  refine Wy ?_;refine Lp (λt:Nat=>t<=c.gr.length) (λt=> [(49,.int .i64 (t:Int)),(7,.int .i64 (lP S (n:Int) t).2)]) (λt=> [(2,.box (lP S (n:Int) t).1.c)]) (λt=>c.gr.length-t) 0 (Nat.zero_le _) ?_ ?_
  ·exact Vr [some 0,some 1,some 2]
  intro t ag;have e:=aMB C (n:Int) t (by omega);have f:lP S (n:Int) (t+1)=((jE (lP S (n:Int) t).1 t ((n:Int)- (lP S (n:Int) t).2)).1,(lP S (n:Int) t).2+(jE (lP S (n:Int) t).1 t ((n:Int)- (lP S (n:Int) t).2)).2):=rfl;have R:=e.lo;have O:=e.hi;have H:=e.ok;have W:=e.gr
  by_cases hb:t<c.gr.length
  ·have z:=aZV (lP S (n:Int) t).1 H (t:Int) ((n:Int)- (lP S (n:Int) t).2);rw [aPT (by omega)] at z;obtain⟨-,-,-,J,K,-,-⟩:=aMM H (t:=t) (by omega) ((n:Int)- (lP S (n:Int) t).2);generalize jE (lP S (n:Int) t).1 t ((n:Int)- (lP S (n:Int) t).2)=T at *;generalize hS:lP S (n:Int) t=U at *;refine Wy ?_;refine Le (t+1) (hv:=?_);simp only [f];exact Vr [some 0,some 1,some 2]
  ·obtain rfl:t=c.gr.length:=by omega
   subst m;exact kK
end Go.Proofs.YtmhapcbjjpadnaaGreat
