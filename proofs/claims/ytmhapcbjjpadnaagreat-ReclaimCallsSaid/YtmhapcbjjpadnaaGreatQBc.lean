/- Caches. -/
import Derived.Test.YtmhapcbjjpadnaaGreatQAc
set_option linter.all false
set_option maxHeartbeats 8000000
set_option maxRecDepth 40000
namespace Go.Proofs.YtmhapcbjjpadnaaGreat
open Go Go.Sk Go.RowKit
def Dc.o1(c:Dc):List V:= [.lst 15 false (aX c.fl),.lst 9 false (aO c.fr),.lst 6 false (aK c.zo),.lst 3 false (aQ c.gr),.sl 0 0 c.ls.length,.lst 1 false (aB c.ck),.lst 5 false (aN c.pt)]
def Dc.ob1(c:Dc):List Sk.Obj:= [.row 3 (aU c.ls)]
theorem Ld1 {G:Prop} (h:G:=by
 (try refine pR.mk ?_)
 (repeat((conv=>whnf);first |refine And.intro (λ_=>⟨rfl,Nat.le_of_ble_eq_true rfl⟩) ?_ |refine And.intro (λ_=>Nat.le_of_ble_eq_true rfl) ?_ |refine And.intro (Nat.le_of_ble_eq_true rfl) ?_ |refine And.intro (λ_=>Sd) ?_))
 (conv=>whnf)
 refine⟨[some 6],?_,rfl,?_,rfl,?_⟩
 all_goals(repeat' (first |exact trivial |rfl |exact .inl rfl |exact .inr rfl |exact id |exact zbc |refine And.intro ?_ ?_ |exact Sd | ((conv=>whnf);exact Sd)))):G:=h
theorem bQQ(c:Dc)(h:Ok c)(n:Int):aM Tryz.prog 42 [] [.agg c.c,.int .i64 n] (.tup [.agg (evP c n).1.o1,.int .i64 (evP c n).2]) (evP c n).1.ob1:=by
 have T:=bDS c h;have C:=bDU c n h.sm;have R:=h.nr;generalize f:evP c n=q;unfold evP at f;rcases cE c n with ⟨e,H⟩| ⟨m,u,e,rfl,D,h2⟩
 ·rw [e] at f;rw [H] at C;subst f;refine aFP R42 (ob0:= []) uP Tryz.func42 rfl rfl rfl ?_;refine Wy ?_;exact Ld1
 ·rw [e] at f;dsimp only at f;rw [nJ D h2] at C;have H:=h.use m u D h2;have Q:=qA D h2;have j:=bGT u;have G:u.ten<c.ck.length:=by rw [h.nk];exact H.ten
  have B:=h.ck u.ten;have O:(aB c.ck).getD u.ten []=[.int .i64 (c.ck.getD u.ten 0)]:=by simp [aB,List.getD_eq_getElem?_getD,G]
  have K:=bOS (c.ck.getD u.ten 0) B.1 B.2;have M:=bOT c.x h.x m u D h2 (0- (c.ck.getD u.ten 0+1));have z:(c.x.goneP m u (0- (c.ck.getD u.ten 0+1))).ck=c.ck:=rfl;have F:∀x:Int,(aB c.ck).set u.ten (aS 1 [.int .i64 (c.ck.getD u.ten 0)] 0 [.int .i64 x])=aB (c.ck.set u.ten x):=λx=>by have :aS 1 [V.int .i64 (c.ck.getD u.ten 0)] 0 [.int .i64 x]=[.int .i64 x]:=rfl;rw [this];unfold aB;rw [List.map_set]
  generalize c.x.goneP m u (0- (c.ck.getD u.ten 0+1))=d at *;obtain⟨W,Y,zo,gr,Z,N,pt⟩:=d;have z:N=c.ck:=z;subst z
  cases E:iJ u with
  |false=> rw [E,Bool.false_and,zcf] at f;rw [E] at j;subst f;refine aFP R42 (ob0:= []) uP Tryz.func42 rfl rfl rfl ?_;refine Wy ?_;exact Ld1
  |true=>
   rw [E,Bool.true_and] at f;rw [E] at j
   by_cases J:u.p.d=0
   ·rw [zdt J,zct] at f;subst f;simp only [Dc.o1,Dc.ob1];rw [<-F];refine aFP R42 (ob0:= []) uP Tryz.func42 rfl rfl rfl ?_;refine Wy ?_;exact Ld1
   ·rw [zdf J,zcf] at f;subst f;refine aFP R42 (ob0:= []) uP Tryz.func42 rfl rfl rfl ?_;refine Wy ?_;exact Ld1
def trB(r:Nat)(d:Dc)(t k:Int):Sk.Obj:=.box [.lst 15 false (aX d.fl),.lst 9 false (aO d.fr),.lst 6 false (aK d.zo),.lst 3 false (aQ d.gr),.sl r 0 d.ls.length,.lst 1 false (aB d.ck),.lst 5 false (aN d.pt),.int .i64 t,.int .i64 k]
theorem aH2 {c d:Dc} (e:d.fr=c.fr):∀k,dY d k=dY c k
 |0=>rfl
 |k+1=>by rw [dY,dY,aH2 e k,e]
theorem bKD(c:Dc)(h:Ok c)(X:List (List V))(B:(X.drop 0).take c.ls.length=aU c.ls)(E:X.length=c.ls.length):
 aM Tryz.prog 284 [.row 3 X] [.agg [.lst 15 false (aX c.fl),.lst 9 false (aO c.fr),.lst 6 false (aK c.zo),.lst 3 false (aQ c.gr),.sl 0 0 c.ls.length,.lst 1 false (aB c.ck),.lst 5 false (aN c.pt)]] (.lst 1 false (aB (dY c c.fr.length))) [.row 3 X]:=by
 have C:=h.nr;refine cX bSB (ob0:= [_]) Tryz.func284 rfl rfl rfl ?_;refine Wy ?_;refine Lp (λi:Nat=>i<=c.fr.length) (λi=> [(4,.int .i64 ((i+1:Nat):Int)),(3,.sl 2 0 (dY c i).length)]) (λi=> [(2,.row 1 (aB (dY c i)))]) (λi=>c.fr.length-i) 0 (Nat.zero_le _) ?_ ?_
 ·exact Vr [some 0,some 1,none]
 intro i D;refine Wy ?_;refine gE (λb=>?_) (λb=>?_)
 ·have b:i<c.fr.length:=by omega
  have F:=qO c i;have e:=bGZ c h i b;unfold Dc.c at e;rw [<-B] at e;have m:dY c (i+1)=bif lN (c.fr.getD i none) then dY c i else dY c i++ [((i+1:Nat):Int)]:=rfl
  have z:aB (dY c i++ [((i+1:Nat):Int)])=aB (dY c i)++ [[.int .i64 ((i+1:Nat):Int)]]:=by simp [aB]
  generalize dY c i=H at *;generalize lN (c.fr.getD i none)=y at *
  cases y with
  |true=>
   rw [zct] at m;refine Wy ?_;refine .inl ⟨_,λ_=>⟨λv f=>?_,e⟩,.inr rfl,?_⟩
   ·rcases List.mem_cons.1 f with rfl |f
    ·intro x j;have j:x∈ [V.lst 15 false (aX c.fl),.lst 9 false (aO c.fr),.lst 6 false (aK c.zo),.lst 3 false (aQ c.gr),.sl 0 0 c.ls.length,.lst 1 false (aB c.ck),.lst 5 false (aN c.pt)]:=j;simp only [List.mem_cons,List.not_mem_nil,or_false] at j;rcases j with rfl |rfl |rfl |rfl |rfl |rfl |rfl <;> first |trivial | (show 0+c.ls.length<=X.length;omega)
    ·obtain rfl:=List.mem_singleton.1 f;trivial
   refine Wy ?_;refine Le (i+1) (hv:=?_);simp only [m];exact Vr [some 0,some 1,_]
  |false=>
   rw [zcf] at m;refine Wy ?_;refine .inl ⟨_,λ_=>⟨λv f=>?_,e⟩,.inr rfl,?_⟩
   ·rcases List.mem_cons.1 f with rfl |f
    ·intro x j;have j:x∈ [V.lst 15 false (aX c.fl),.lst 9 false (aO c.fr),.lst 6 false (aK c.zo),.lst 3 false (aQ c.gr),.sl 0 0 c.ls.length,.lst 1 false (aB c.ck),.lst 5 false (aN c.pt)]:=j;simp only [List.mem_cons,List.not_mem_nil,or_false] at j;rcases j with rfl |rfl |rfl |rfl |rfl |rfl |rfl <;> first |trivial | (show 0+c.ls.length<=X.length;omega)
    ·obtain rfl:=List.mem_singleton.1 f;trivial
   refine Wy ?_;refine Le (i+1) (hv:=?_);simp only [m,z,List.length_append];exact Vr [some 0,some 1,_]
 obtain rfl:i=c.fr.length:=by omega
 exact Wo
noncomputable def bSA:Rsv Tryz.prog Tryz.f193 [] 1:=⟨_,_,rfl,rfl⟩
theorem bP2(d:Dc)(h:Ok d)(t:Nat)(j:t<d.ls.length)(k:Int):
 aM Tryz.prog 193 [trB 1 d t k,.row 3 (aU d.ls)] [.ptr 0 0 0] (.lst 1 false (aB (aW d t).2)) [trB 1 d t k,.row 3 (aU (d.ls.set t (aW d t).1))]:=by
 have J:=h.nr;have H:=eC d.ls t j;have m:=bPX (d.ls.getD t l0) (h.smL t);rw [show tK (d.ls.getD t l0)=gX d t from rfl] at m;obtain⟨O,Q,R,T⟩:=uT h j;have C:Ok (Go.Proofs.YtmhapcbjjpadnaaGreat.cB d t (gX d t)):=by have F:=(bF _).1 (h.ls t j);obtain⟨M,N⟩:=F.tK;refine h.cB ((bF _).2 M) λy K=>?_;have :=N.mem_iff.1 (List.mem_append.2 K);exact List.mem_append.1 this
 have e:=bKD _ C ((aU d.ls).set t (aS 3 (d.ls.getD t l0).c 0 (gX d t).c)) (by
  rw [List.drop_zero,show aS 3 (d.ls.getD t l0).c 0 (gX d t).c=(gX d t).c from rfl,iE];exact List.take_of_length_le (by rw [bW];exact Nat.le_refl _)) (by show _=(d.ls.set t _).length;rw [List.length_set,List.length_set,bW])
 rw [aH2 (show(Go.Proofs.YtmhapcbjjpadnaaGreat.cB d t (gX d t)).fr=d.fr from rfl)] at e;have B:dM (gX d t):=by have :=C.smL t;rwa [show(Go.Proofs.YtmhapcbjjpadnaaGreat.cB d t (gX d t)).ls.getD t l0=gX d t from aH _ _ _ _ j] at this
 have z:=bPY (gX d t) ((gX d t).I.length:Int) (dY d d.fr.length) false B (by have :=qO d d.fr.length;omega);rw [show kS (gX d t) ((gX d t).I.length:Int) (dY d d.fr.length)=aW d t from rfl] at z;unfold trB;unfold Go.Proofs.YtmhapcbjjpadnaaGreat.cB at e;dsimp only at e;rw [List.length_set] at e;generalize gX d t=b at *;generalize aW d t=q at *;obtain⟨q1,q2⟩:=q;dsimp only at *;have E:aS 3 (d.ls.getD t l0).c 0 b.c=b.c:=rfl
 have G:((aU d.ls).set t (aS 3 (d.ls.getD t l0).c 0 b.c)).getD t []=b.c:=by
  rw [E,iE];have :=eC (d.ls.set t b) t (by rw [List.length_set];exact j)
  rwa [aH _ _ _ _ j] at this
 have f:aU (d.ls.set t q1)=((aU d.ls).set t (aS 3 (d.ls.getD t l0).c 0 b.c)).set t (aS 3 b.c 0 q1.c):=by rw [List.set_set,show aS 3 b.c 0 q1.c=q1.c from rfl,iE]
 rw [f];have D:((aU d.ls).set t (aS 3 (d.ls.getD t l0).c 0 b.c)).length=d.ls.length:=by rw [List.length_set,bW]
 clear f E;refine cX bSA (ob0:= [_,_]) Tryz.func193 rfl rfl rfl ?_;refine Wy ?_;exact Lo2
end Go.Proofs.YtmhapcbjjpadnaaGreat
