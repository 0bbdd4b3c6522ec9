/- Caches. -/
import Derived.Test.YtmhapcbjjpadnaaGreatQAg
set_option linter.all false
set_option maxHeartbeats 8000000
set_option maxRecDepth 40000
namespace Go.Proofs.YtmhapcbjjpadnaaGreat
open Go Go.Sk Go.RowKit
def Dc.o1(c:Dc):List V:= [.lst 15 false (bF c.fl),.lst 9 false (aQ c.fr),.lst 6 false (aJ c.zo),.lst 3 false (aR c.gr),.sl 0 0 c.ls.length,.lst 1 false (aB c.ck),.lst 5 false (aP c.pt)]
def Dc.ob1(c:Dc):List Sk.Obj:= [.row 3 (bA c.ls)]
theorem Ld1 {G:Prop} (h:G:=by
 (try refine pG.mk ?_)
 (repeat((conv=>whnf);first |refine And.intro (λ_=>⟨rfl,Nat.le_of_ble_eq_true rfl⟩) ?_ |refine And.intro (λ_=>Nat.le_of_ble_eq_true rfl) ?_ |refine And.intro (Nat.le_of_ble_eq_true rfl) ?_ |refine And.intro (λ_=>Sd) ?_))
 (conv=>whnf)
 refine⟨[some 6],?_,rfl,?_,rfl,?_⟩
 all_goals(repeat' (first |exact trivial |rfl |exact .inl rfl |exact .inr rfl |exact id |exact zbc |refine And.intro ?_ ?_ |exact Sd | ((conv=>whnf);exact Sd)))):G:=h
theorem bPE(c:Dc)(h:Ok c)(n:Int):aM Tryz.prog 42 [] [.agg c.c,.int .i64 n] (.tup [.agg (lA c n).1.o1,.int .i64 (lA c n).2]) (lA c n).1.ob1:=by
 have R:=bDG c h;have C:=bDI c n h.sm;have Q:=h.nr;generalize f:lA c n=q;unfold lA at f;rcases bN c n with ⟨e,G⟩| ⟨m,u,e,rfl,h1,h2⟩
 ·rw [e] at f;rw [G] at C;subst f;refine aEZ R42 (ob0:= []) qU Tryz.func42 rfl rfl rfl ?_;refine Wy ?_;exact Ld1
 ·rw [e] at f;dsimp only at f;rw [mU h1 h2] at C;have G:=h.use m u h1 h2;have O:=qW h1 h2;have j:=bG7 u;have F:u.ten<c.ck.length:=by rw [h.nk];exact G.ten
  have B:=h.ck u.ten;have N:(aB c.ck).getD u.ten []=[.int .i64 (c.ck.getD u.ten 0)]:=by simp [aB,List.getD_eq_getElem?_getD,F]
  have J:=bNI (c.ck.getD u.ten 0) B.1 B.2;have K:=bNJ c.x h.x m u h1 h2 (0- (c.ck.getD u.ten 0+1));have z:(c.x.goneP m u (0- (c.ck.getD u.ten 0+1))).ck=c.ck:=rfl;have E:∀x:Int,(aB c.ck).set u.ten (aS 1 [.int .i64 (c.ck.getD u.ten 0)] 0 [.int .i64 x])=aB (c.ck.set u.ten x):=λx=>by have :aS 1 [V.int .i64 (c.ck.getD u.ten 0)] 0 [.int .i64 x]=[.int .i64 x]:=rfl;rw [this];unfold aB;rw [List.map_set]
  generalize c.x.goneP m u (0- (c.ck.getD u.ten 0+1))=d at *;obtain⟨T,W,zo,gr,Y,M,Z⟩:=d;have z:M=c.ck:=z;subst z
  cases D:dW u with
  |false=> rw [D,Bool.false_and,zcf] at f;rw [D] at j;subst f;refine aEZ R42 (ob0:= []) qU Tryz.func42 rfl rfl rfl ?_;refine Wy ?_;exact Ld1
  |true=>
   rw [D,Bool.true_and] at f;rw [D] at j
   by_cases H:u.p.d=0
   ·rw [zdt H,zct] at f;subst f;simp only [Dc.o1,Dc.ob1];rw [<-E];refine aEZ R42 (ob0:= []) qU Tryz.func42 rfl rfl rfl ?_;refine Wy ?_;exact Ld1
   ·rw [zdf H,zcf] at f;subst f;refine aEZ R42 (ob0:= []) qU Tryz.func42 rfl rfl rfl ?_;refine Wy ?_;exact Ld1
def trB(r:Nat)(d:Dc)(t k:Int):Sk.Obj:=.box [.lst 15 false (bF d.fl),.lst 9 false (aQ d.fr),.lst 6 false (aJ d.zo),.lst 3 false (aR d.gr),.sl r 0 d.ls.length,.lst 1 false (aB d.ck),.lst 5 false (aP d.pt),.int .i64 t,.int .i64 k]
theorem aNG {c d:Dc} (e:d.fr=c.fr):∀k,eK d k=eK c k
 |0=>rfl
 |k+1=>by rw [eK,eK,aNG e k,e]
theorem bJM(c:Dc)(h:Ok c)(X:List (List V))(B:(X.drop 0).take c.ls.length=bA c.ls)(E:X.length=c.ls.length):
 aM Tryz.prog 284 [.row 3 X] [.agg [.lst 15 false (bF c.fl),.lst 9 false (aQ c.fr),.lst 6 false (aJ c.zo),.lst 3 false (aR c.gr),.sl 0 0 c.ls.length,.lst 1 false (aB c.ck),.lst 5 false (aP c.pt)]] (.lst 1 false (aB (eK c c.fr.length))) [.row 3 X]:=by
 have C:=h.nr;refine cQ bQZ (ob0:= [_]) Tryz.func284 rfl rfl rfl ?_;refine Wy ?_;refine Lp (λi:Nat=>i<=c.fr.length) (λi=> [(4,.int .i64 ((i+1:Nat):Int)),(3,.sl 2 0 (eK c i).length)]) (λi=> [(2,.row 1 (aB (eK c i)))]) (λi=>c.fr.length-i) 0 (Nat.zero_le _) ?_ ?_
 ·exact Vr [some 0,some 1,none]
 intro i D;refine Wy ?_;refine iF (λb=>?_) (λb=>?_)
 ·have b:i<c.fr.length:=by omega
  have F:=aCF c i;have e:=bGC c h i b;unfold Dc.c at e;rw [<-B] at e;have m:eK c (i+1)=bif kK (c.fr.getD i none) then eK c i else eK c i++ [((i+1:Nat):Int)]:=rfl
  have z:aB (eK c i++ [((i+1:Nat):Int)])=aB (eK c i)++ [[.int .i64 ((i+1:Nat):Int)]]:=by simp [aB]
  generalize eK c i=H at *;generalize kK (c.fr.getD i none)=y at *
  cases y with
  |true=>
   rw [zct] at m;refine Wy ?_;refine .inl ⟨_,λ_=>⟨λv f=>?_,e⟩,.inr rfl,?_⟩
   ·rcases List.mem_cons.1 f with rfl |f
    ·intro x j;have j:x∈ [V.lst 15 false (bF c.fl),.lst 9 false (aQ c.fr),.lst 6 false (aJ c.zo),.lst 3 false (aR c.gr),.sl 0 0 c.ls.length,.lst 1 false (aB c.ck),.lst 5 false (aP c.pt)]:=j;simp only [List.mem_cons,List.not_mem_nil,or_false] at j;rcases j with rfl |rfl |rfl |rfl |rfl |rfl |rfl <;> first |trivial | (show 0+c.ls.length<=X.length;omega)
    ·obtain rfl:=List.mem_singleton.1 f;trivial
   refine Wy ?_;refine Le (i+1) (hv:=?_);simp only [m];exact Vr [some 0,some 1,_]
  |false=>
   rw [zcf] at m;refine Wy ?_;refine .inl ⟨_,λ_=>⟨λv f=>?_,e⟩,.inr rfl,?_⟩
   ·rcases List.mem_cons.1 f with rfl |f
    ·intro x j;have j:x∈ [V.lst 15 false (bF c.fl),.lst 9 false (aQ c.fr),.lst 6 false (aJ c.zo),.lst 3 false (aR c.gr),.sl 0 0 c.ls.length,.lst 1 false (aB c.ck),.lst 5 false (aP c.pt)]:=j;simp only [List.mem_cons,List.not_mem_nil,or_false] at j;rcases j with rfl |rfl |rfl |rfl |rfl |rfl |rfl <;> first |trivial | (show 0+c.ls.length<=X.length;omega)
    ·obtain rfl:=List.mem_singleton.1 f;trivial
   refine Wy ?_;refine Le (i+1) (hv:=?_);simp only [m,z,List.length_append];exact Vr [some 0,some 1,_]
 obtain rfl:i=c.fr.length:=by omega
 exact Wo
noncomputable def bQY:Rsv Tryz.prog Tryz.f193 [] 1:=⟨_,_,rfl,rfl⟩
theorem bNU(d:Dc)(h:Ok d)(t:Nat)(j:t<d.ls.length)(k:Int):
 aM Tryz.prog 193 [trB 1 d t k,.row 3 (bA d.ls)] [.ptr 0 0 0] (.lst 1 false (aB (cK d t).2)) [trB 1 d t k,.row 3 (bA (d.ls.set t (cK d t).1))]:=by
 have H:=h.nr;have G:=gE d.ls t j;have m:=bOL (d.ls.getD t l0) (h.smL t);rw [show rF (d.ls.getD t l0)=gB d t from rfl] at m;obtain⟨N,O,Q,R⟩:=aHR h j;have C:Ok (Go.Proofs.YtmhapcbjjpadnaaGreat.dX d t (gB d t)):=by have hc:=(bX _).1 (h.ls t j);obtain⟨K,M⟩:=hc.rF;refine h.dX ((bX _).2 K) λy J=>?_;have :=M.mem_iff.1 (List.mem_append.2 J);exact List.mem_append.1 this
 have e:=bJM _ C ((bA d.ls).set t (aS 3 (d.ls.getD t l0).c 0 (gB d t).c)) (by
  rw [List.drop_zero,show aS 3 (d.ls.getD t l0).c 0 (gB d t).c=(gB d t).c from rfl,kI];exact List.take_of_length_le (by rw [bT];exact Nat.le_refl _)) (by show _=(d.ls.set t _).length;rw [List.length_set,List.length_set,bT])
 rw [aNG (show(Go.Proofs.YtmhapcbjjpadnaaGreat.dX d t (gB d t)).fr=d.fr from rfl)] at e;have B:eA (gB d t):=by have :=C.smL t;rwa [show(Go.Proofs.YtmhapcbjjpadnaaGreat.dX d t (gB d t)).ls.getD t l0=gB d t from aE _ _ _ _ j] at this
 have z:=bOM (gB d t) ((gB d t).I.length:Int) (eK d d.fr.length) false B (by have :=aCF d d.fr.length;omega);rw [show mO (gB d t) ((gB d t).I.length:Int) (eK d d.fr.length)=cK d t from rfl] at z;unfold trB;unfold Go.Proofs.YtmhapcbjjpadnaaGreat.dX at e;dsimp only at e;rw [List.length_set] at e;generalize gB d t=b at *;generalize cK d t=q at *;obtain⟨q1,q2⟩:=q;dsimp only at *;have E:aS 3 (d.ls.getD t l0).c 0 b.c=b.c:=rfl
 have F:((bA d.ls).set t (aS 3 (d.ls.getD t l0).c 0 b.c)).getD t []=b.c:=by
  rw [E,kI];have :=gE (d.ls.set t b) t (by rw [List.length_set];exact j)
  rwa [aE _ _ _ _ j] at this
 have f:bA (d.ls.set t q1)=((bA d.ls).set t (aS 3 (d.ls.getD t l0).c 0 b.c)).set t (aS 3 b.c 0 q1.c):=by rw [List.set_set,show aS 3 b.c 0 q1.c=q1.c from rfl,kI]
 rw [f];have D:((bA d.ls).set t (aS 3 (d.ls.getD t l0).c 0 b.c)).length=d.ls.length:=by rw [List.length_set,bT]
 clear f E;refine cQ bQY (ob0:= [_,_]) Tryz.func193 rfl rfl rfl ?_;refine Wy ?_;exact Lo2
end Go.Proofs.YtmhapcbjjpadnaaGreat
