/- Caches. -/
import Derived.Test.YtmhapcbjjpadnaaGreatProg
import Derived.Test.YtmhapcbjjpadnaaGreatK8b
import Derived.KernelRfl
set_option linter.all false
set_option maxRecDepth 40000
namespace Go.Proofs.YtmhapcbjjpadnaaGreat
open Go Go.Sk Go.RowKit
instance:Go.Sk.gH:=⟨λ_=>none,[147,156]⟩
def aMV(x n:Int):Int:=IntKind.i64.wrap ((IntKind.u64.wrap x).tmod (IntKind.u64.wrap n))
theorem bM5(x n:Int)(hn:IntKind.u64.wrap n≠0):aM Tryz.prog 14 [] [.int .i64 x,.int .i64 n] (.int .i64 (aMV x n)) []:=by
 refine aF (ob0:= []) [] Tryz.func14 rfl rfl rfl rfl ?_
 refine Wk ?_
 first |refine aB (hn) ?_ |refine aH (λ_=>hn) ?_ |refine⟨λ_=>hn,?_⟩
 refine Wk ?_
 try subst hk
 exact Lf
def aE(L:List Int):List (List V):=L.map λx=> [.int .i64 x]
def aQC(L:List Int)(I:Int):Sk.Obj:=.box [.lst 1 false (aE L),.int .i64 I]
theorem aA(L:List Int):(aE L).length=L.length:=by simp [aE]
theorem bN(L:List Int)(i:Nat)(h:i<L.length):(aE L).getD i []=[.int .i64 (L[i]'h)]:=by
 simp [aE,List.getD_eq_getElem?_getD,h]
theorem aGG:∀(M:List (List Int×V)) (j:List Int) (v:V) (x:List Int) (z:V),fM (iH M j v) x z=if x=j then v else fM M x z
 | [],j,v,x,z=>by
   simp only [iH,fM]
   by_cases h:x=j
   ·simp [h]
   ·rw [if_neg h,if_neg (λe=>h e.symm)]
 | (k,u)::r,j,v,x,z=>by
   simp only [iH]
   by_cases hk:k=j
   ·subst hk
    simp only [if_true,fM]
    by_cases hx:k=x
    ·subst hx;simp
    ·simp [hx,Ne.symm hx]
   ·simp only [if_neg hk,fM,aGG r j v x z]
    by_cases hx:k=x
    ·subst hx;simp [hk]
    ·simp [hx]
theorem dB {xs:List (List V)} {n:Nat} (h:xs.length=n):(xs.drop 0).take n=xs:=by subst h;simp
theorem bM6(L:List Int)(I n:Int)(hn:IntKind.u64.wrap n≠0)(hI:0<=I)(hlt:I< (L.length:Int))(hL:(L.length:Int)<2^62):
 aM Tryz.prog 15 [aQC L I] [.ptr 0 0 0,.int .i64 n] (.int .i64 (aMV (L.getD I.toNat 0) n)) [aQC L (I+1)]:=by
 have hlen:(aE L).length=L.length:=by simp [aE]
 refine aF (ob0:= [aQC L I]) [] Tryz.func15 rfl rfl rfl rfl ?_
 refine Wk ?_
 refine aC (λh=>?_) (λ_=>?_)
 ·rw [hlen] at h;exact absurd (of_decide_eq_true h) (by omega)
 refine Wk ?_
 have hw1:IntKind.i64.wrap (I+1)=I+1:=by rw [IntKind.wrap_i64];omega
 have hw2:IntKind.i64.wrap (I+1-1)=I:=by rw [IntKind.wrap_i64];omega
 rw [hw1,hw2]
 first |refine aB (⟨rfl,hI,by rw [hlen];exact hlt⟩) ?_ |refine aH (λ_=>⟨rfl,hI,by rw [hlen];exact hlt⟩) ?_ |refine⟨λ_=>⟨rfl,hI,by rw [hlen];exact hlt⟩,?_⟩
 have hget:(aE L).getD I.toNat []=[.int .i64 (L.getD I.toNat 0)]:=by
  have :I.toNat<L.length:=by omega
  simp [aE,List.getD_eq_getElem?_getD,this]
 rw [hget]
 refine cC (bM5 _ _ hn) ?_
 try subst hk
 exact⟨[some 0],Cl,rfl,Cl,rfl,Cl⟩
def nxV(L:List Int)(I:Nat)(n:Int):Int:=bif decide (L.length<=I) then 0 else aMV (L.getD I 0) n
def nxI(L:List Int)(I:Nat):Nat:=bif decide (L.length<=I) then I else I+1
def lC(L:List Int)(I:Nat):Sk.Obj:=aQC L (I:Int)
theorem aWF {n:Int} (h0:0<n)(h1:n<4611686018427387904):IntKind.u64.wrap n=n:=by rw [IntKind.wrap_u64];omega
theorem aXT(x n:Int)(h0:0<n)(h1:n<4611686018427387904):0<=aMV x n/\aMV x n<n:=by
 unfold aMV
 rw [aWF h0 h1]
 have hx:0<=IntKind.u64.wrap x:=by rw [IntKind.wrap_u64];omega
 have a1:=Int.tmod_nonneg n hx
 have a2:=Int.tmod_lt_of_pos (IntKind.u64.wrap x) h0
 rw [aR (by omega) (by omega)]
 exact⟨a1,a2⟩
theorem aNF(L:List Int)(I:Nat)(n:Int)(h0:0<n)(h1:n<4611686018427387904):0<=nxV L I n/\nxV L I n<n:=by
 unfold nxV
 cases decide (L.length<=I) with
 |true=>exact⟨by simp,by simpa using h0⟩
 |false=>exact aXT _ n h0 h1
theorem aNE(L:List Int)(I:Nat)(h:I<=L.length):nxI L I<=L.length:=by
 unfold nxI
 by_cases h':L.length<=I
 ·simp [h'];exact h
 ·simp [h'];omega
theorem aUK(L:List Int)(I:Nat)(n:Int)(hL:(L.length:Int)<2^62)(hI:I<=L.length)(h0:0<n)(h1:n<4611686018427387904):
 aM Tryz.prog 15 [lC L I] [.ptr 0 0 0,.int .i64 n] (.int .i64 (nxV L I n)) [lC L (nxI L I)]:=by
 have hn:IntKind.u64.wrap n≠0:=by rw [aWF h0 h1];omega
 by_cases hlt:I<L.length
 ·have e1:nxV L I n=aMV (L.getD I 0) n:=by simp [nxV,show ¬L.length<=I by omega]
  have e2:nxI L I=I+1:=by simp [nxI,show ¬L.length<=I by omega]
  have :=bM6 L I n hn (by omega) (by omega) (by omega)
  rw [e1,e2]
  simpa [lC] using this
 ·have e1:nxV L I n=0:=by simp [nxV,show L.length<=I by omega]
  have e2:nxI L I=I:=by simp [nxI,show L.length<=I by omega]
  rw [e1,e2]
  refine aF (ob0:= [lC L I]) [] Tryz.func15 rfl rfl rfl rfl ?_
  refine Wk ?_
  rw [aA]
  refine aC (λh=>?_) (λh=>?_)
  ·refine Wk ?_
   refine⟨[some 0],?_,rfl,?_,rfl,?_⟩
   ·exact⟨⟨⟨.inl rfl,λh=>h,rfl⟩,⟨rfl,rfl⟩,trivial⟩,trivial⟩
   ·exact⟨rfl,trivial⟩
   ·conv=>whnf
    exact⟨rfl,rfl⟩
  ·simp at h;omega
def aYZ:List Int:= [0,1,2,3,4,7,8,15,16,63,64,128,255,256,-1,1000000,1000001,4611686018427387904,-9223372036854775808]
def aYX(L:List Int)(I:Nat):Int:=aYZ.getD (nxV L I 19).toNat 0
theorem getLit {R:List (List V)} {M:List Int} (j:Int)(hR:R=aE M)(h0:0<=j)(h:j<M.length):R.getD (0+j.toNat) []=[.int .i64 (M.getD j.toNat 0)]:=by
 subst hR
 rw [Nat.zero_add]
 have :j.toNat<M.length:=by omega
 rw [bN M _ this];simp [List.getD_eq_getElem?_getD,this]
theorem Wt {L:List Int} {G Q:Prop} (hL:(L.length:Int)<2^62)(q:Q)(h:(L.length:Int)<2^62->Hd Q->G:=by
 intro hL q
 (repeat((conv=>whnf);first |refine Cd.go ?_ |refine⟨rfl,?_⟩|refine aB ⟨.inl rfl,rfl⟩ ?_ |refine aB rfl ?_ |refine⟨Nat.le_of_ble_eq_true rfl,?_⟩|refine⟨.inl rfl,?_⟩|refine⟨λ_=>⟨rfl,Nat.le_of_ble_eq_true rfl⟩,?_⟩|refine⟨λ_=>Nat.le_of_ble_eq_true rfl,?_⟩|refine⟨λh=>Bool.noConfusion h,?_⟩|refine .inr ⟨λ_=>⟨[0],_,_,_,aUK _ _ _ hL (by omega) (by omega) (by omega),⟨rfl,trivial⟩,rfl,rfl,rfl,?_⟩,(by intro h;cases h)⟩))
 (conv=>whnf)
 exact q.h):G:=h hL ⟨q⟩
theorem bM8(L:List Int)(I:Nat)(hL:(L.length:Int)<2^62)(hI:I<=L.length):aM Tryz.prog 34 [lC L I] [.ptr 0 0 0] (.int .i64 (aYX L I)) [lC L (nxI L I)]:=by
 refine aF (ob0:= [lC L I]) [] Tryz.func34 rfl rfl rfl rfl ?_
 refine Wt hL ?_
 have hv:=aNF L I 19 (by omega) (by omega)
 first |refine aB (hv) ?_ |refine aH (λ_=>hv) ?_ |refine⟨λ_=>hv,?_⟩
 refine Wt hL ?_
 first |refine aB (by simp only [List.length_set,List.length_replicate];omega) ?_ |refine aH (λ_=>by simp only [List.length_set,List.length_replicate];omega) ?_ |refine⟨λ_=>by simp only [List.length_set,List.length_replicate];omega,?_⟩
 rw [getLit (M:=aYZ) _ ?hR hv.1 hv.2]
 case hR=>rfl
 refine Wt hL ?_
 try subst hk
 exact⟨[some 0],Cl,rfl,Cl,rfl,Cl⟩
end Go.Proofs.YtmhapcbjjpadnaaGreat
namespace Go.Proofs.YtmhapcbjjpadnaaGreat
open Go Go.Sk Go.RowKit
def dR {α:Type} (p:α->Bool):List α->Int
 | []=> -1
 |x::r=>bif p x then 0 else bif decide (dR p r<0) then -1 else dR p r+1
theorem aHV {α:Type} (p:α->Bool):∀l:List α,-1<=dR p l/\dR p l<l.length
 | []=>by simp [dR]
 |x::r=>by
  have :=aHV p r
  simp only [dR,List.length_cons]
  cases p x <;> simp only [cond_true,cond_false]
  ·by_cases h:dR p r<0 <;> simp [h] <;> omega
  ·omega
theorem qJ {α:Type} (p:α->Bool):∀(l:List α) (i:Nat) (h:i<l.length),(∀j (hj:j<i),p (l[j]'(by omega))=false)->p l[i]=true->dR p l=i
 | [],i,h,_,_=>by simp at h
 |x::r,0,_,_,h2=>by simp only [List.getElem_cons_zero] at h2;simp [dR,h2]
 |x::r,i+1,h,h1,h2=>by
  have hx:p x=false:=by simpa using h1 0 (by omega)
  have ih:=qJ p r i (by simpa using h) (λj hj=>by simpa using h1 (j+1) (by omega)) (by simpa using h2)
  simp only [dR,hx,cond_false,ih,show ¬(i:Int)<0 by omega,decide_false]
  omega
theorem jV {α:Type} (p:α->Bool):∀(l:List α),(∀x∈l,p x=false)->dR p l= -1
 | [],_=>rfl
 |x::r,h=>by
  have hx:p x=false:=h x (by simp)
  have ih:=jV p r (λy hy=>h y (by simp [hy]))
  simp [dR,hx,ih]
theorem sC {α:Type} (p:α->Bool):∀(l:List α),dR p l<0↔∀x∈l,p x=false
 | []=>by simp [dR]
 |x::r=>by
  have ih:=sC p r
  simp only [dR,List.mem_cons,forall_eq_or_imp]
  cases hx:p x <;> simp only [cond_true,cond_false]
  ·by_cases h:dR p r<0
   ·simp only [h,decide_true,cond_true];exact⟨λ_=>⟨trivial,ih.1 h⟩,λ_=>by omega⟩
   ·simp only [h,decide_false,cond_false];exact⟨λh'=>absurd h' (by omega),λh'=>absurd (ih.2 h'.2) h⟩
  ·exact⟨λh=>absurd h (by omega),λh=>by cases h.1⟩
theorem oY {α:Type} (p:α->Bool)(l:List α)(h:0<=dR p l):∃(i:Nat) (hi:i<l.length),dR p l=i/\p l[i]=true/\∀j (hj:j<i),p (l[j]'(by omega))=false:=by
 induction l with
 |nil=>simp [dR] at h
 |cons x r ih=>
  cases hx:p x with
  |true=>exact⟨0,by simp,by simp [dR,hx],hx,λj hj=>by omega⟩
  |false=>
   have hr:0<=dR p r:=by
    apply Classical.byContradiction;intro hn
    simp [dR,hx,show dR p r<0 by omega] at h
   obtain⟨i,hi,e,h1,h2⟩:=ih hr
   refine⟨i+1,by simpa using hi,?_,by simpa using h1,λj hj=>?_⟩
   ·simp only [dR,hx,cond_false,e,show ¬(i:Int)<0 by omega,decide_false];omega
   ·cases j with
    |zero=>exact hx
    |succ j=>simpa using h2 j (by omega)
theorem aM.lst_cases {f:FuncId} {ob0 ob1:List Sk.Obj} {es:Nat} {t:Bool} {xs:List (List V)} {args:List V} {res:V} (h1:xs≠ []->aM Tryz.prog f ob0 (.lst es t xs::args) res ob1)
 (h2:xs=[]->∀(a:Option Addr) (cap:Nat),aM Tryz.prog f ob0 (.val (.slice a 0 cap)::args) res ob1):aM Tryz.prog f ob0 (.lst es t xs::args) res ob1:=by
 by_cases h:xs=[]
 ·subst h
  intro U σ w cargs hR hl ha
  have hlt:0<cargs.size:=by rw [hl];simp
  have h0:=ha 0 _ _ rfl (Array.getElem?_eq_getElem hlt)
  generalize hv:cargs[0]=v at h0
  have hv':cargs[0]? =some v:=by rw [Array.getElem?_eq_getElem hlt,hv]
  cases h0 with
  | @lst _ _ _ _ a cap b o cv q1 q2 q3 q4 q5 q6 q7=>
    refine h2 rfl a cap U σ w cargs hR (by simpa using hl) λi x c hx hc=>?_
    cases i with
    |zero=>
     simp only [List.getElem?_cons_zero,Option.some.injEq] at hx
     subst hx
     rw [hv'] at hc
     obtain rfl:=Option.some.inj hc
     exact .val _
    |succ i=>exact ha (i+1) x c (by simpa using hx) hc
 ·exact h1 h
theorem bIP(l:List Int)(t:Bool)(x:Int)(hl:(l.length:Int)<2^62):aM Tryz.prog 306 [] [.lst 1 t (aE l),.int .i64 x] (.int .i64 (dR (λy=>x==y) l)) []:=by
 refine aF (ob0:= []) [] Tryz.func306 rfl rfl rfl rfl ?_
 generalize hk:dR (λy=>x==y) l=q
 refine Wk ?_
 rw [aA]
 refine⟨Nat,λi=>i<=l.length/\∀j (hj:j<i) (h:j<l.length),(x==l[j])=false,λi=>⟨[(0,⟨[],true,.lst 1 t (aE l)⟩),(1,⟨[],true,.int .i64 x⟩),(4,⟨[],true,.int .i64 0⟩),(7,⟨[],true,.int .i64 (l.length:Int)⟩),(8,⟨[],true,.int .i64 (i:Int)⟩)],[],0⟩,λi=>l.length-i,⟨0,⟨by omega,λj hj=>by omega⟩,?_⟩,λi hI=>?_⟩
 ·exact Vw []
 obtain⟨hI1,hI2⟩:=hI
 refine Wk ?_
 refine aC (λh2=>?_) (λh2=>?_)<;> try simp only [Bool.cond_true_left,Bool.cond_false_right,Bool.not_eq_true',Bool.not_eq_false',Bool.not_not,aA] at h2
 ·have h2:i<l.length:=by simp at h2;omega
  refine Wk ?_
  first |refine aB (⟨rfl,by omega,by rw [aA];omega⟩) ?_ |refine aH (λ_=>⟨rfl,by omega,by rw [aA];omega⟩) ?_ |refine⟨λ_=>⟨rfl,by omega,by rw [aA];omega⟩,?_⟩
  rw [Int.toNat_natCast,bN l i h2]
  refine Wk ?_
  refine aC (λh3=>?_) (λh3=>?_)<;> try simp only [Bool.cond_true_left,Bool.cond_false_right,Bool.not_eq_true',Bool.not_eq_false',Bool.not_not,aA] at h3
  ·have :q=i:=by rw [<-hk];exact qJ _ l i h2 (λj hj=>hI2 j hj (by omega)) h3
   subst this
   refine Wk ?_
   try subst hk
   exact Lf
  refine Wk ?_
  rw [aR (n:=(i:Int)+1) (by omega) (by omega),show((i:Int)+1)=((i+1:Nat):Int) by omega]
  refine⟨i+1,⟨by omega,λj hj h=>?_⟩,?_,by show l.length- (i+1)<l.length-i;omega⟩
  ·by_cases e:j=i
   ·subst e;exact h3
   ·exact hI2 j (by omega) h
  exact Vw []
 have h2:i=l.length:=by simp at h2;omega
 have :q= -1:=by rw [<-hk];exact jV _ l λy hy=>by obtain⟨j,hj,rfl⟩:=List.getElem_of_mem hy;exact hI2 j (by omega) hj
 subst this
 refine Wk ?_
 try subst hk
 exact Lf
theorem bGM(l:List Int)(x:Int):decide (0<=dR (λy=>x==y) l)=decide (x∈l):=by
 rw [Bool.eq_iff_iff,decide_eq_true_eq,decide_eq_true_eq]
 have h:=sC (λy=>x==y) l
 constructor
 ·intro h0
  obtain⟨i,hi,-,h1,-⟩:=oY _ l h0
  have :x=l[i]:=by simpa using h1
  rw [this];exact List.getElem_mem hi
 ·intro hm
  apply Classical.byContradiction;intro hn
  have :=h.1 (by omega) x hm
  simp at this
theorem aV1(l:List Int)(t:Bool)(x:Int)(hl:(l.length:Int)<2^62):aM Tryz.prog 228 [] [.lst 1 t (aE l),.int .i64 x] (.bool (decide (x∈l))) []:=by
 rw [<-bGM]
 refine aF (ob0:= []) [] Tryz.func228 rfl rfl rfl rfl ?_
 refine cC (bIP l t x hl) ?_
 try subst hk
 exact Lf
theorem uB(rows:List (List V))(t:Bool)(hl:rows.length*8<=140737488355328):aM Tryz.prog 107 [] [.lst 1 t rows] (.sl 0 0 rows.length) [.row 1 rows]:=by
 refine aM.lst_cases (λhne=>?_) (λhe a cap=>?_)
 ·obtain⟨r,rs,rfl⟩:=List.exists_cons_of_ne_nil hne
  refine aF (ob0:= []) [] Tryz.func107 rfl rfl rfl rfl ?_
  refine Wk ?_
  first |refine bG (by simp only [List.replicate_zero,List.length_nil,Nat.zero_add];omega) (by simp only [List.replicate_zero,List.length_nil,Nat.zero_add];exact hl) ?_ |refine aB ⟨by simp only [List.replicate_zero,List.length_nil,Nat.zero_add];omega,by simp only [List.replicate_zero,List.length_nil,Nat.zero_add];exact hl⟩ ?_ |refine⟨by simp only [List.replicate_zero,List.length_nil,Nat.zero_add];omega,by simp only [List.replicate_zero,List.length_nil,Nat.zero_add];exact hl,?_⟩
  refine Wk ?_
  try subst hk
  refine⟨[some 1],?_,rfl,?_,rfl,?_⟩
  all_goals repeat' (first |exact trivial |rfl |exact .inl rfl |exact .inr rfl |exact id |exact(λh=>Bool.noConfusion h)|refine And.intro ?_ ?_)
  simp
 ·subst he
  cases a with
  |none=>
   refine aF (ob0:= []) [] Tryz.func107 rfl rfl rfl rfl ?_
   refine Wk ?_
   try subst hk
   exact⟨[none],Cl,rfl,Cl,rfl,Cl⟩
  |some ad=>
   refine aF (ob0:= []) [] Tryz.func107 rfl rfl rfl rfl ?_
   refine Wk ?_
   try subst hk
   exact⟨[some 1],Cl,rfl,Cl,rfl,Cl⟩
theorem aUQ(rows:List (List V))(t:Bool)(hl:rows.length*64<=140737488355328):aM Tryz.prog 187 [] [.lst 6 t rows] (.sl 0 0 rows.length) [.row 6 rows]:=by
 refine aM.lst_cases (λhne=>?_) (λhe a cap=>?_)
 ·obtain⟨r,rs,rfl⟩:=List.exists_cons_of_ne_nil hne
  refine aF (ob0:= []) [] Tryz.func187 rfl rfl rfl rfl ?_
  refine Wk ?_
  first |refine bG (by simp only [List.replicate_zero,List.length_nil,Nat.zero_add];omega) (by simp only [List.replicate_zero,List.length_nil,Nat.zero_add];exact hl) ?_ |refine aB ⟨by simp only [List.replicate_zero,List.length_nil,Nat.zero_add];omega,by simp only [List.replicate_zero,List.length_nil,Nat.zero_add];exact hl⟩ ?_ |refine⟨by simp only [List.replicate_zero,List.length_nil,Nat.zero_add];omega,by simp only [List.replicate_zero,List.length_nil,Nat.zero_add];exact hl,?_⟩
  refine Wk ?_
  try subst hk
  refine⟨[some 1],?_,rfl,?_,rfl,?_⟩
  all_goals repeat' (first |exact trivial |rfl |exact .inl rfl |exact .inr rfl |exact id |exact(λh=>Bool.noConfusion h)|refine And.intro ?_ ?_)
  simp
 ·subst he
  cases a with
  |none=>
   refine aF (ob0:= []) [] Tryz.func187 rfl rfl rfl rfl ?_
   refine Wk ?_
   try subst hk
   exact⟨[none],Cl,rfl,Cl,rfl,Cl⟩
  |some ad=>
   refine aF (ob0:= []) [] Tryz.func187 rfl rfl rfl rfl ?_
   refine Wk ?_
   try subst hk
   exact⟨[some 1],Cl,rfl,Cl,rfl,Cl⟩
theorem aWI {S:aD} {ids:List (Option Nat)} {c:V} (h:cD c=true):vw1 S ids c c:=by
 cases c <;> first |exact⟨rfl,rfl⟩|rfl |exact⟨.inl rfl,id,rfl⟩| (simp [cD] at h)
theorem jU {S:aD} {ids:List (Option Nat)} :∀ {l:List V},l.all cD=true->aJD (vw1 S ids) l l
 | [],_=>trivial
 |c::r,h=>by
  simp only [List.all_cons,Bool.and_eq_true] at h
  exact⟨aWI h.1,jU h.2⟩
theorem aRU {S:aD} {c:V} (h:cD c=true):sK S c=c:=by
 cases c <;> first |rfl | (simp [cD] at h)
def aFZ:V->Bool
 | .agg cs=>cs.all cD
 |v=>cD v
theorem aKP {S:aD} :∀ {l:List V},l.all cD=true->l.map (sK S)=l
 | [],_=>rfl
 |c::r,h=>by
  simp only [List.all_cons,Bool.and_eq_true] at h
  rw [List.map_cons,aRU h.1,aKP h.2]
theorem aGR {S:aD} {c:V} (h:aFZ c=true):pur S c=c:=by
 by_cases ha:∃cs,c=.agg cs
 ·obtain⟨cs,rfl⟩:=ha
  show V.agg (cs.map (sK S))=_
  rw [aKP h]
 ·cases c <;> first |exact absurd ⟨_,rfl⟩ ha |rfl | (simp [aFZ,cD] at h)
theorem aNO {S:aD} {c:V} (h:cD c=true):iQ S c:=by
 cases c <;> first |exact trivial | (simp [cD] at h)
theorem aC4 {S:aD} {c:V} (h:aFZ c=true):nM S c:=by
 cases c with
 |agg cs=>intro x hx;exact aNO (List.all_eq_true.1 h x hx)
 |_=>first |exact trivial | (simp [aFZ,cD] at h)
theorem aOP {c:V} (h:cD c=true):aFZ c=true:=by
 cases c <;> first |rfl |exact h | (simp [cD] at h)
theorem aO5 {S:aD} {g:FuncId} {caps:List V} {x res:V} {gc:Bool} {K:V->Prop} (hcap:caps.all cD=true)(hx:aFZ x=true)(hp:aM Tryz.prog g [] (x::caps) res [])(hs:aBG res=true)(h:K res):
 qP Tryz.prog g (x::caps) S gc K:=by
 refine⟨res,λ_=>⟨λv hv=>?_,?_⟩,.inr hs,h⟩
 ·rcases List.mem_cons.1 hv with rfl |hv
  ·exact aC4 hx
  ·exact aC4 (aOP (List.all_eq_true.1 hcap v hv))
 ·have :(x::caps).map (pur S)=x::caps:=by
   rw [List.map_cons,aGR hx]
   congr 1
   rw [<-List.map_id' caps,List.map_map]
   apply List.map_congr_left
   intro c hc
   exact aGR (aOP (List.all_eq_true.1 hcap c hc))
  rw [this];exact hp
theorem bJ8(l:List Int)(t:Bool)(g:FuncId)(caps:List V)(p:Int->Bool)(hg:fY Tryz.prog g)(hcap:caps.all cD=true)(hp:∀x∈l,aM Tryz.prog g [] (.int .i64 x::caps) (.bool (p x)) [])(hl:(l.length:Int)<2^62):
 aM Tryz.prog 358 [] [.lst 1 t (aE l),.fn g caps] (.int .i64 (dR p l)) []:=by
 refine aF (ob0:= []) [] Tryz.func358 rfl rfl rfl rfl ?_
 generalize hk:dR p l=q
 refine Wk ?_
 rw [aA]
 refine⟨Nat,λi=>i<=l.length/\∀j (hj:j<i) (h:j<l.length),p l[j]=false,λi=>⟨[(0,⟨[],true,.lst 1 t (aE l)⟩),(1,⟨[],true,.fn g caps⟩),(4,⟨[],true,.int .i64 0⟩),(7,⟨[],true,.int .i64 (l.length:Int)⟩),(8,⟨[],true,.int .i64 (i:Int)⟩)],[],0⟩,λi=>l.length-i,⟨0,⟨by omega,λj hj=>by omega⟩,?_⟩,λi hI=>?_⟩
 ·refine bX [] rfl rfl ?_ rfl ?_ rfl ?_
  repeat' (first |exact trivial |rfl |exact .inl rfl |exact .inr rfl |exact id |exact(λh=>Bool.noConfusion h)|refine And.intro ?_ ?_)
  exact jU hcap
 obtain⟨hI1,hI2⟩:=hI
 refine Wk ?_
 refine aC (λh2=>?_) (λh2=>?_)<;> try simp only [Bool.cond_true_left,Bool.cond_false_right,Bool.not_eq_true',Bool.not_eq_false',Bool.not_not,aA] at h2
 ·have h2:i<l.length:=by simp at h2;omega
  refine Wk ?_
  first |refine aB (⟨rfl,by omega,by rw [aA];omega⟩) ?_ |refine aH (λ_=>⟨rfl,by omega,by rw [aA];omega⟩) ?_ |refine⟨λ_=>⟨rfl,by omega,by rw [aA];omega⟩,?_⟩
  rw [Int.toNat_natCast,bN l i h2]
  refine Wk ?_
  refine⟨hg,.inl (aO5 hcap rfl (hp _ (List.getElem_mem h2)) rfl ?_)⟩
  refine Wk ?_
  refine aC (λh3=>?_) (λh3=>?_)<;> try simp only [Bool.cond_true_left,Bool.cond_false_right,Bool.not_eq_true',Bool.not_eq_false',Bool.not_not,aA] at h3
  ·have :q=i:=by rw [<-hk];exact qJ _ l i h2 (λj hj=>hI2 j hj (by omega)) h3
   subst this
   refine Wk ?_
   try subst hk
   exact Lf
  refine Wk ?_
  rw [aR (n:=(i:Int)+1) (by omega) (by omega),show((i:Int)+1)=((i+1:Nat):Int) by omega]
  refine⟨i+1,⟨by omega,λj hj h=>?_⟩,?_,by show l.length- (i+1)<l.length-i;omega⟩
  ·by_cases e:j=i
   ·subst e;exact h3
   ·exact hI2 j (by omega) h
  refine bX [] rfl rfl ?_ rfl ?_ rfl ?_
  repeat' (first |exact trivial |rfl |exact .inl rfl |exact .inr rfl |exact id |exact(λh=>Bool.noConfusion h)|refine And.intro ?_ ?_)
  exact jU hcap
 have h2:i=l.length:=by simp at h2;omega
 have :q= -1:=by rw [<-hk];exact jV _ l λy hy=>by obtain⟨j,hj,rfl⟩:=List.getElem_of_mem hy;exact hI2 j (by omega) hj
 subst this
 refine Wk ?_
 try subst hk
 exact Lf
structure Zn where
 first :Int
 size:Int
 min:Int
 low:Int
 high:Int
 free:List Int
 ex:Bool
def Zn.c(z:Zn):List V:= [.int .i64 z.first,.int .i64 z.size,.int .i64 z.min,.int .i64 z.low,.int .i64 z.high,.lst 1 z.ex (aE z.free)]
def gD:Zn:=⟨0,0,0,0,0,[],true⟩
def aQ(L:List Zn):List (List V):=L.map Zn.c
theorem aG(L:List Zn):(aQ L).length=L.length:=by simp [aQ]
theorem eK(L:List Zn)(i:Nat)(h:i<L.length):(aQ L).getD i []=(L[i]'h).c:=by
 simp [aQ,List.getD_eq_getElem?_getD,h]
theorem bIO(l:List Zn)(t:Bool)(g:FuncId)(caps:List V)(p:Zn->Bool)(hg:fY Tryz.prog g)(hcap:caps.all cD=true)(hp:∀x∈l,aM Tryz.prog g [] (.agg x.c::caps) (.bool (p x)) [])(hl:(l.length:Int)<2^62):
 aM Tryz.prog 305 [] [.lst 6 t (aQ l),.fn g caps] (.int .i64 (dR p l)) []:=by
 refine aF (ob0:= []) [] Tryz.func305 rfl rfl rfl rfl ?_
 generalize hk:dR p l=q
 refine Wk ?_
 rw [aG]
 refine⟨Nat,λi=>i<=l.length/\∀j (hj:j<i) (h:j<l.length),p l[j]=false,λi=>⟨[(0,⟨[],true,.lst 6 t (aQ l)⟩),(1,⟨[],true,.fn g caps⟩),(4,⟨[],true,.int .i64 0⟩),(7,⟨[],true,.int .i64 (l.length:Int)⟩),(8,⟨[],true,.int .i64 (i:Int)⟩)],[],0⟩,λi=>l.length-i,⟨0,⟨by omega,λj hj=>by omega⟩,?_⟩,λi hI=>?_⟩
 ·refine bX [] rfl rfl ?_ rfl ?_ rfl ?_
  repeat' (first |exact trivial |rfl |exact .inl rfl |exact .inr rfl |exact id |exact(λh=>Bool.noConfusion h)|refine And.intro ?_ ?_)
  exact jU hcap
 obtain⟨hI1,hI2⟩:=hI
 refine Wk ?_
 refine aC (λh2=>?_) (λh2=>?_)<;> try simp only [Bool.cond_true_left,Bool.cond_false_right,Bool.not_eq_true',Bool.not_eq_false',Bool.not_not,aA] at h2
 ·have h2:i<l.length:=by simp at h2;omega
  refine Wk ?_
  first |refine aB (⟨rfl,by omega,by rw [aG];omega⟩) ?_ |refine aH (λ_=>⟨rfl,by omega,by rw [aG];omega⟩) ?_ |refine⟨λ_=>⟨rfl,by omega,by rw [aG];omega⟩,?_⟩
  rw [Int.toNat_natCast,eK l i h2]
  refine Wk ?_
  refine⟨hg,.inl (aO5 hcap rfl (hp _ (List.getElem_mem h2)) rfl ?_)⟩
  refine Wk ?_
  refine aC (λh3=>?_) (λh3=>?_)<;> try simp only [Bool.cond_true_left,Bool.cond_false_right,Bool.not_eq_true',Bool.not_eq_false',Bool.not_not,aA] at h3
  ·have :q=i:=by rw [<-hk];exact qJ _ l i h2 (λj hj=>hI2 j hj (by omega)) h3
   subst this
   refine Wk ?_
   try subst hk
   exact Lf
  refine Wk ?_
  rw [aR (n:=(i:Int)+1) (by omega) (by omega),show((i:Int)+1)=((i+1:Nat):Int) by omega]
  refine⟨i+1,⟨by omega,λj hj h=>?_⟩,?_,by show l.length- (i+1)<l.length-i;omega⟩
  ·by_cases e:j=i
   ·subst e;exact h3
   ·exact hI2 j (by omega) h
  refine bX [] rfl rfl ?_ rfl ?_ rfl ?_
  repeat' (first |exact trivial |rfl |exact .inl rfl |exact .inr rfl |exact id |exact(λh=>Bool.noConfusion h)|refine And.intro ?_ ?_)
  exact jU hcap
 have h2:i=l.length:=by simp at h2;omega
 have :q= -1:=by rw [<-hk];exact jV _ l λy hy=>by obtain⟨j,hj,rfl⟩:=List.getElem_of_mem hy;exact hI2 j (by omega) hj
 subst this
 refine Wk ?_
 try subst hk
 exact Lf
end Go.Proofs.YtmhapcbjjpadnaaGreat
namespace Go.Proofs.YtmhapcbjjpadnaaGreat
open Go Go.Sk Go.RowKit
def jH(z:Zn):Int:=IntKind.i64.wrap (z.first+z.size)
theorem aPE(z:Zn):aM Tryz.prog 292 [] [.agg z.c] (.int .i64 (jH z)) []:=by
 refine aF (ob0:= []) [] Tryz.func292 rfl rfl rfl rfl ?_
 refine Wk ?_
 try subst hk
 exact Lf
def iM(z:Zn)(f:Int):Bool:=((z.first != f||decide (z.size<1))||decide (64<z.size))||decide (65<jH z)
def jL(z:Zn):Bool:=((decide (z.min<0)||decide (z.low<z.min))||decide (z.high<z.low))||decide (z.size<z.high)
def kL(lo hi:Int)(l:List Int)(i:Nat):Bool:=(decide (l.getD i 0<lo)||decide (hi<=l.getD i 0))||(decide (0< (i:Int))&&decide (l.getD i 0<=l.getD (i-1) 0))
def tU(lo hi:Int)(l:List Int):Nat->Bool
 |0=>true
 |i+1=>tU lo hi l i&& !kL lo hi l i
theorem sX(lo hi:Int)(l:List Int):∀(n i:Nat),i<n->tU lo hi l n=true->kL lo hi l i=false
 |0,_,h,_=>by omega
 |n+1,i,h,h1=>by
  simp only [tU,Bool.and_eq_true,Bool.not_eq_true'] at h1
  by_cases e:i=n
  ·subst e;exact h1.2
  ·exact sX lo hi l n i (by omega) h1.1
theorem aJG(lo hi:Int)(l:List Int)(n i:Nat)(h:i<n)(hb:kL lo hi l i=true):tU lo hi l n=false:=by
 cases ha:tU lo hi l n with
 |false=>rfl
 |true=>rw [sX lo hi l n i h ha] at hb;cases hb
def iR(z:Zn)(f:Int):Bool:=bif iM z f then false else bif jL z then false else tU z.first (jH z) z.free z.free.length
theorem fI(l:List Int)(i:Nat)(h:i<l.length):l[i]=l.getD i 0:=by simp [List.getD_eq_getElem?_getD,h]
theorem vY(i:Nat)(hi:(i:Int)<2^62):(IntKind.i64.wrap ((i:Int)-1)).toNat=i-1:=by rw [aR (by omega) (by omega)];omega
theorem pP(i:Nat)(hi:(i:Int)<2^62):IntKind.i64.wrap ((i:Int)-1)=(i:Int)-1:=aR (by omega) (by omega)
theorem bIJ(z:Zn)(f:Int)(hl:(z.free.length:Int)<2^62):aM Tryz.prog 291 [] [.agg z.c,.int .i64 f] (.bool (iR z f)) []:=by
 refine aF (ob0:= []) [] Tryz.func291 rfl rfl rfl rfl ?_
 generalize hk:iR z f=q
 refine cC (aPE z) ?_
 refine aC (λh1=>?_) (λh1=>?_)<;> try simp only [Bool.cond_true_left,Bool.cond_false_right,Bool.not_eq_true',Bool.not_eq_false',Bool.not_not] at h1
 ·have h1:iM z f=true:=h1
  simp only [iR,h1,cond_true] at hk
  subst hk
  refine Wk ?_
  try subst hk
  exact Lf
 have h1:iM z f=false:=h1
 simp only [iR,h1,cond_false] at hk
 refine Wk ?_
 refine aC (λh2=>?_) (λh2=>?_)<;> try simp only [Bool.cond_true_left,Bool.cond_false_right,Bool.not_eq_true',Bool.not_eq_false',Bool.not_not] at h2
 ·have h2:jL z=true:=h2
  simp only [h2,cond_true] at hk
  subst hk
  refine Wk ?_
  try subst hk
  exact Lf
 have h2:jL z=false:=h2
 simp only [h2,cond_false] at hk
 refine Wk ?_
 rw [aA]
 refine⟨Nat,λi=>i<=z.free.length/\tU z.first (jH z) z.free i=true,λi=>⟨[(1,⟨[],true,.int .i64 f⟩),(2,⟨[],true,.ptr 0 0 0⟩),(4,⟨[],true,.bool false⟩),(51,⟨[],true,.lst 1 z.ex (aE z.free)⟩),(52,⟨[],true,.int .i64 (z.free.length:Int)⟩),(53,⟨[],true,.int .i64 (i:Int)⟩)],[(0,.box z.c)],1⟩,λi=>z.free.length-i,⟨0,⟨by omega,rfl⟩,?_⟩,λi hI=>?_⟩
 ·exact Vw [some 0]
 obtain⟨hI1,hI2⟩:=hI
 refine Wk ?_
 refine aC (λh3=>?_) (λh3=>?_)<;> try simp only [Bool.cond_true_left,Bool.cond_false_right,Bool.not_eq_true',Bool.not_eq_false',Bool.not_not] at h3
 ·have h3:i<z.free.length:=by simp at h3;omega
  refine Wk ?_
  first |refine aB (⟨rfl,by omega,by rw [aA];omega⟩) ?_ |refine aH (λ_=>⟨rfl,by omega,by rw [aA];omega⟩) ?_ |refine⟨λ_=>⟨rfl,by omega,by rw [aA];omega⟩,?_⟩
  rw [Int.toNat_natCast,bN z.free i h3]
  refine cC (aPE z) ?_
  rw [vY i (by omega)]
  first |refine aH (λhg=>⟨rfl,?_,?_⟩) ?_ |refine⟨λhg=>⟨rfl,?_,?_⟩,?_⟩
  ·simp only [Bool.and_eq_true,decide_eq_true_eq] at hg
   rw [pP i (by omega)];omega
  ·rw [pP i (by omega),aA];omega
  rw [bN z.free (i-1) (by omega)]
  refine Wk ?_
  rw [fI,fI]
  refine aC (λh4=>?_) (λh4=>?_)<;> try simp only [Bool.cond_true_left,Bool.cond_false_right,Bool.not_eq_true',Bool.not_eq_false',Bool.not_not] at h4
  ·have h4:kL z.first (jH z) z.free i=true:=h4
   rw [aJG _ _ _ _ i h3 h4] at hk
   subst hk
   refine Wk ?_
   try subst hk
   exact Lf
  have h4:kL z.first (jH z) z.free i=false:=h4
  refine Wk ?_
  rw [aR (n:=(i:Int)+1) (by omega) (by omega),show((i:Int)+1)=((i+1:Nat):Int) by omega]
  refine⟨i+1,⟨by omega,by simp only [tU,hI2,h4];rfl⟩,?_,by show z.free.length- (i+1)<z.free.length-i;omega⟩
  exact Vw [some 0]
 have h3:i=z.free.length:=by simp at h3;omega
 rw [<-h3,hI2] at hk
 subst hk
 refine Wk ?_
 try subst hk
 exact Lf
end Go.Proofs.YtmhapcbjjpadnaaGreat
