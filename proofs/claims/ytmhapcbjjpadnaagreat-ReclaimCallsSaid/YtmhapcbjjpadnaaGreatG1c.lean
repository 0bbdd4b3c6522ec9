/- Caches. -/
import Derived.Test.YtmhapcbjjpadnaaGreatProg
import Derived.Test.YtmhapcbjjpadnaaGreatK8c
import Derived.KernelRfl
set_option linter.all false
set_option maxRecDepth 40000
open Array renaming getElem?_eq_getElem→zN
open Bool renaming cond_false_right→zA,cond_true_left→zC,not_eq_true'→zD,not_eq_false'→zE,not_not→zF,and_eq_true→zJ
open Int renaming toNat_natCast→zI
open List renaming getD_eq_getElem?_getD→zG,replicate_zero→zH,length_nil→zK,getElem_of_mem→zL,exists_cons_of_ne_nil→zM,getElem_mem→zO
open Nat renaming zero_add→zP
namespace Go.Proofs.YtmhapcbjjpadnaaGreat
open Go Go.Sk Go.RowKit
instance:Go.Sk.gL:=⟨λ_=>none,[147,156,284]⟩
def aNL(x n:Int):Int:=IntKind.i64.wrap ((IntKind.u64.wrap x).tmod (IntKind.u64.wrap n))
theorem bOP(x n:Int)(e:IntKind.u64.wrap n≠0):aM Tryz.prog 14 [] [.int .i64 x,.int .i64 n] (.int .i64 (aNL x n)) []:=by refine cK Tryz.func14 ?_;refine Wk ?_;refine aG (e) ?_;refine Wk ?_;exact Lf
def aB(L:List Int):List (List V):=L.map λx=> [.int .i64 x]
def aUM(L:List Int)(I:Int):Sk.Obj:=.box [.lst 1 false (aB L),.int .i64 I]
theorem aA(L:List Int):(aB L).length=L.length:=by simp [aB]
theorem bS(L:List Int)(i:Nat)(h:i<L.length):(aB L).getD i []=[.int .i64 (L[i]'h)]:=by simp [aB,zG,h]
theorem aDE:∀(M:List (List Int×V)) (j:List Int) (v:V) (x:List Int) (z:V),fJ (iU M j v) x z=if x=j then v else fJ M x z
 | [],j,v,x,z=>by
   simp only [iU,fJ]
   by_cases h:x=j
   ·simp [h]
   ·rw [if_neg h,if_neg (λe=>h e.symm)]
 | (k,u)::r,j,v,x,z=>by
   simp only [iU]
   by_cases m:k=j
   ·subst m;simp only [if_true,fJ]
    by_cases f:k=x
    ·subst f;simp
    ·simp [f,Ne.symm f]
   ·simp only [if_neg m,fJ,aDE r j v x z]
    by_cases f:k=x
    ·subst f;simp [m]
    ·simp [f]
theorem dB {xs:List (List V)} {n:Nat} (h:xs.length=n):(xs.drop 0).take n=xs:=by subst h;simp
theorem bSX(L:List Int)(I n:Int)(B:IntKind.u64.wrap n≠0)(hI:0<=I)(j:I< (L.length:Int))(C:(L.length:Int)<2^62):
 aM Tryz.prog 15 [aUM L I] [.ptr 0 0 0,.int .i64 n] (.int .i64 (aNL (L.getD I.toNat 0) n)) [aUM L (I+1)]:=by
 have e:(aB L).length=L.length:=by simp [aB]
 refine eT (ob0:= [aUM L I]) [] Tryz.func15 rfl rfl rfl rfl ?_;refine Wk ?_;refine aC (λh=>?_) (λ_=>?_)
 ·rw [e] at h;exact absurd (of_decide_eq_true h) (by omega)
 refine Wk ?_;have m:IntKind.i64.wrap (I+1)=I+1:=by rw [IntKind.wrap_i64];omega
 have z:IntKind.i64.wrap (I+1-1)=I:=by rw [IntKind.wrap_i64];omega
 rw [m,z];refine⟨λ_=>⟨rfl,hI,by rw [e];exact j⟩,?_⟩
 have f:(aB L).getD I.toNat []=[.int .i64 (L.getD I.toNat 0)]:=by
  have :I.toNat<L.length:=by omega
  simp [aB,zG,this]
 rw [f];refine cO (bOP _ _ B) ?_;exact⟨[some 0],Cl,rfl,Cl,rfl,Cl⟩
def nxV(L:List Int)(I:Nat)(n:Int):Int:=bif decide (L.length<=I) then 0 else aNL (L.getD I 0) n
def nxI(L:List Int)(I:Nat):Nat:=bif decide (L.length<=I) then I else I+1
def oT(L:List Int)(I:Nat):Sk.Obj:=aUM L (I:Int)
theorem bBJ {n:Int} (e:0<n)(f:n<4611686018427387904):IntKind.u64.wrap n=n:=by rw [IntKind.wrap_u64];omega
theorem aSJ(x n:Int)(e:0<n)(m:n<4611686018427387904):0<=aNL x n/\aNL x n<n:=by
 unfold aNL;rw [bBJ e m];have z:0<=IntKind.u64.wrap x:=by rw [IntKind.wrap_u64];omega
 have f:=Int.tmod_nonneg n z;have j:=Int.tmod_lt_of_pos (IntKind.u64.wrap x) e;rw [aP (by omega) (by omega)];exact⟨f,j⟩
theorem aZO(L:List Int)(I:Nat)(n:Int)(e:0<n)(f:n<4611686018427387904):0<=nxV L I n/\nxV L I n<n:=by
 unfold nxV
 cases decide (L.length<=I) with
 |true=>exact⟨by simp,by simpa using e⟩
 |false=>exact aSJ _ n e f
theorem aZN(L:List Int)(I:Nat)(h:I<=L.length):nxI L I<=L.length:=by
 unfold nxI
 by_cases e:L.length<=I
 ·simp [e];exact h
 ·simp [e];omega
theorem bGV(L:List Int)(I:Nat)(n:Int)(B:(L.length:Int)<2^62)(hI:I<=L.length)(f:0<n)(j:n<4611686018427387904):
 aM Tryz.prog 15 [oT L I] [.ptr 0 0 0,.int .i64 n] (.int .i64 (nxV L I n)) [oT L (nxI L I)]:=by
 have z:IntKind.u64.wrap n≠0:=by rw [bBJ f j];omega
 by_cases m:I<L.length
 ·have e1:nxV L I n=aNL (L.getD I 0) n:=by simp [nxV,show ¬L.length<=I by omega]
  have e:nxI L I=I+1:=by simp [nxI,show ¬L.length<=I by omega]
  have :=bSX L I n z (by omega) (by omega) (by omega);rw [e1,e];simpa [oT] using this
 ·have e1:nxV L I n=0:=by simp [nxV,show L.length<=I by omega]
  have e:nxI L I=I:=by simp [nxI,show L.length<=I by omega]
  rw [e1,e];refine eT (ob0:= [oT L I]) [] Tryz.func15 rfl rfl rfl rfl ?_;refine Wk ?_;rw [aA];refine aC (λh=>?_) (λh=>?_)
  ·refine Wk ?_;refine⟨[some 0],?_,rfl,?_,rfl,?_⟩
   ·exact⟨⟨⟨.inl rfl,λh=>h,rfl⟩,⟨rfl,rfl⟩,trivial⟩,trivial⟩
   ·exact⟨rfl,trivial⟩
   ·conv=>whnf
    exact⟨rfl,rfl⟩
  ·simp at h;omega
def eJ {α:Type} (p:α->Bool):List α->Int
 | []=> -1
 |x::r=>bif p x then 0 else bif decide (eJ p r<0) then -1 else eJ p r+1
theorem aLH {α:Type} (p:α->Bool):∀l:List α,-1<=eJ p l/\eJ p l<l.length
 | []=>by simp [eJ]
 |x::r=>by
  have :=aLH p r;simp only [eJ,List.length_cons];cases p x <;> simp only [zct,zcf]
  ·by_cases h:eJ p r<0 <;> simp [h] <;> omega
  ·omega
theorem rZ {α:Type} (p:α->Bool):∀(l:List α) (i:Nat) (h:i<l.length),(∀j (f:j<i),p (l[j]'(by omega))=false)->p l[i]=true->eJ p l=i
 | [],i,h,_,_=>by simp at h
 |x::r,0,_,_,h2=>by simp only [List.getElem_cons_zero] at h2;simp [eJ,h2]
 |x::r,i+1,h,e,h2=>by
  have m:p x=false:=by simpa using e 0 (by omega)
  have z:=rZ p r i (by simpa using h) (λj f=>by simpa using e (j+1) (by omega)) (by simpa using h2);simp only [eJ,m,zcf,z,show ¬(i:Int)<0 by omega,decide_false];omega
theorem lU {α:Type} (p:α->Bool):∀(l:List α),(∀x∈l,p x=false)->eJ p l= -1
 | [],_=>rfl
 |x::r,h=>by have e:p x=false:=h x (by simp);have j:=lU p r (λy f=>h y (by simp [f]));simp [eJ,e,j]
theorem uE {α:Type} (p:α->Bool):∀(l:List α),eJ p l<0↔∀x∈l,p x=false
 | []=>by simp [eJ]
 |x::r=>by
  have e:=uE p r;simp only [eJ,List.mem_cons,forall_eq_or_imp];cases j:p x <;> simp only [zct,zcf]
  ·by_cases h:eJ p r<0
   ·simp only [h,decide_true,zct];exact⟨λ_=>⟨trivial,e.1 h⟩,λ_=>by omega⟩
   ·simp only [h,decide_false,zcf];exact⟨λf=>absurd f (by omega),λf=>absurd (e.2 f.2) h⟩
  ·exact⟨λh=>absurd h (by omega),λh=>by cases h.1⟩
theorem qQ {α:Type} (p:α->Bool)(l:List α)(h:0<=eJ p l):∃(i:Nat) (hi:i<l.length),eJ p l=i/\p l[i]=true/\∀j (m:j<i),p (l[j]'(by omega))=false:=by
 induction l with
 |nil=>simp [eJ] at h
 |cons x r C=>
  cases f:p x with
  |true=>exact⟨0,by simp,by simp [eJ,f],f,λj m=>by omega⟩
  |false=>
   have B:0<=eJ p r:=by apply Classical.byContradiction;intro D;simp [eJ,f,show eJ p r<0 by omega] at h
   obtain⟨i,hi,e,z,h2⟩:=C B;refine⟨i+1,by simpa using hi,?_,by simpa using z,λj m=>?_⟩
   ·simp only [eJ,f,zcf,e,show ¬(i:Int)<0 by omega,decide_false];omega
   ·cases j with
    |zero=>exact f
    |succ j=>simpa using h2 j (by omega)
theorem aM.lst_cases {f:FuncId} {ob0 j:List Sk.Obj} {es:Nat} {t:Bool} {xs:List (List V)} {args:List V} {m:V} (H:xs≠ []->aM Tryz.prog f ob0 (.lst es t xs::args) m j)
 (h2:xs=[]->∀(a:Option Addr) (cap:Nat),aM Tryz.prog f ob0 (.val (.slice a 0 cap)::args) m j):aM Tryz.prog f ob0 (.lst es t xs::args) m j:=by
 by_cases h:xs=[]
 ·subst h;intro U σ w e J G F;have z:0<e.size:=by rw [G];simp
  have E:=F 0 _ _ rfl (zN z);generalize K:e[0]=v at E;have C:e[0]? =some v:=by rw [zN z,K]
  cases E with
  | @lst _ _ _ _ a cap b o M q1 q2 N O Q R T=>
    refine h2 rfl a cap U σ w e J (by simpa using G) λi x c D B=>?_
    cases i with
    |zero=> simp only [List.getElem?_cons_zero,zse] at D;subst D;rw [C] at B;obtain rfl:=zsi B;exact .val _
    |succ i=>exact F (i+1) x c (by simpa using D) B
 ·exact H h
theorem bQ4(l:List Int)(t:Bool)(x:Int)(F:(l.length:Int)<2^62):aM Tryz.prog 306 [] [.lst 1 t (aB l),.int .i64 x] (.int .i64 (eJ (λy=>x==y) l)) []:=by
 refine cK Tryz.func306 ?_;generalize z:eJ (λy=>x==y) l=q;refine Wk ?_;rw [aA];refine⟨Nat,λi=>i<=l.length/\∀j (m:j<i) (h:j<l.length),(x==l[j])=false,λi=>⟨[(0,⟨[],true,.lst 1 t (aB l)⟩),(1,⟨[],true,.int .i64 x⟩),(4,⟨[],true,.int .i64 0⟩),(7,⟨[],true,.int .i64 (l.length:Int)⟩),(8,⟨[],true,.int .i64 (i:Int)⟩)],[],0⟩,λi=>l.length-i,⟨0,⟨by omega,λj m=>by omega⟩,?_⟩,λi C=>?_⟩
 ·exact Vw []
 obtain⟨D,f⟩:=C;refine Wk ?_;refine aC (λh2=>?_) (λh2=>?_)<;> try simp only [zC,zA,zD,zE,zF,aA] at h2
 ·have h2:i<l.length:=by simp at h2;omega
  refine Wk ?_;refine aG (⟨rfl,by omega,by rw [aA];omega⟩) ?_;rw [zI,bS l i h2];refine Wk ?_;refine aC (λB=>?_) (λB=>?_)<;> try simp only [zC,zA,zD,zE,zF,aA] at B
  ·have :q=i:=by rw [<-z];exact rZ _ l i h2 (λj m=>f j m (by omega)) B
   subst this;refine Wk ?_
   try subst z
   exact Lf
  refine Wk ?_;rw [aP (n:=(i:Int)+1) (by omega) (by omega),show((i:Int)+1)=((i+1:Nat):Int) by omega];refine⟨i+1,⟨by omega,λj m h=>?_⟩,?_,by show l.length- (i+1)<l.length-i;omega⟩
  ·by_cases e:j=i
   ·subst e;exact B
   ·exact f j (by omega) h
  exact Vw []
 have h2:i=l.length:=by simp at h2;omega
 have :q= -1:=by rw [<-z];exact lU _ l λy E=>by obtain⟨j,m,rfl⟩:=zL E;exact f j (by omega) m
 subst this;refine Wk ?_
 try subst z
 exact Lf
theorem bNS(l:List Int)(x:Int):decide (0<=eJ (λy=>x==y) l)=decide (x∈l):=by
 rw [Bool.eq_iff_iff,decide_eq_true_eq,decide_eq_true_eq];have h:=uE (λy=>x==y) l;constructor
 ·intro e;obtain⟨i,j,-,f,-⟩:=qQ _ l e;have :x=l[i]:=by simpa using f
  rw [this];exact zO j
 ·intro m;apply Classical.byContradiction;intro z;have :=h.1 (by omega) x m;simp at this
theorem aOV(l:List Int)(t:Bool)(x:Int)(e:(l.length:Int)<2^62):aM Tryz.prog 228 [] [.lst 1 t (aB l),.int .i64 x] (.bool (decide (x∈l))) []:=by rw [<-bNS];refine cK Tryz.func228 ?_;refine cO (bQ4 l t x e) ?_;exact Lf
theorem sV(e:List (List V))(t:Bool)(f:e.length*8<=140737488355328):aM Tryz.prog 107 [] [.lst 1 t e] (.sl 0 0 e.length) [.row 1 e]:=by
 refine aM.lst_cases (λj=>?_) (λz a cap=>?_)
 ·obtain⟨r,B,rfl⟩:=zM j;refine cK Tryz.func107 ?_;refine Wk ?_;refine cA (by simp only [zH,zK,zP];omega) (by simp only [zH,zK,zP];exact f) ?_;refine Wk ?_;refine⟨[some 1],?_,rfl,?_,rfl,?_⟩
  all_goals repeat' (first |exact trivial |rfl |exact .inl rfl |exact .inr rfl |exact id |exact zbc |apply And.intro)
  simp
 ·subst z
  cases a with
  |none=> refine cK Tryz.func107 ?_;refine Wk ?_;exact⟨[none],Cl,rfl,Cl,rfl,Cl⟩
  |some m=> refine cK Tryz.func107 ?_;refine Wk ?_;exact⟨[some 1],Cl,rfl,Cl,rfl,Cl⟩
theorem aTH(e:List (List V))(t:Bool)(f:e.length*64<=140737488355328):aM Tryz.prog 187 [] [.lst 6 t e] (.sl 0 0 e.length) [.row 6 e]:=by
 refine aM.lst_cases (λj=>?_) (λz a cap=>?_)
 ·obtain⟨r,B,rfl⟩:=zM j;refine cK Tryz.func187 ?_;refine Wk ?_;refine cA (by simp only [zH,zK,zP];omega) (by simp only [zH,zK,zP];exact f) ?_;refine Wk ?_;refine⟨[some 1],?_,rfl,?_,rfl,?_⟩
  all_goals repeat' (first |exact trivial |rfl |exact .inl rfl |exact .inr rfl |exact id |exact zbc |apply And.intro)
  simp
 ·subst z
  cases a with
  |none=> refine cK Tryz.func187 ?_;refine Wk ?_;exact⟨[none],Cl,rfl,Cl,rfl,Cl⟩
  |some m=> refine cK Tryz.func187 ?_;refine Wk ?_;exact⟨[some 1],Cl,rfl,Cl,rfl,Cl⟩
theorem bBN {S:aD} {ids:List (Option Nat)} {c:V} (h:cN c=true):vw1 S ids c c:=by
 cases c <;> first |exact⟨rfl,rfl⟩|rfl |exact⟨.inl rfl,id,rfl⟩| (simp [cN] at h)
theorem lT {S:aD} {ids:List (Option Nat)} :∀ {l:List V},l.all cN=true->aN5 (vw1 S ids) l l
 | [],_=>trivial
 |c::r,h=>by simp only [List.all_cons,zJ] at h;exact⟨bBN h.1,lT h.2⟩
theorem aWE {S:aD} {c:V} (h:cN c=true):uO S c=c:=by
 cases c <;> first |rfl | (simp [cN] at h)
def aJG:V->Bool
 | .agg cs=>cs.all cN
 |v=>cN v
theorem aOJ {S:aD} :∀ {l:List V},l.all cN=true->l.map (uO S)=l
 | [],_=>rfl
 |c::r,h=>by simp only [List.all_cons,zJ] at h;rw [List.map_cons,aWE h.1,aOJ h.2]
theorem aK1 {S:aD} {c:V} (h:aJG c=true):pur S c=c:=by
 by_cases f:∃e,c=.agg e
 ·obtain⟨e,rfl⟩:=f;show V.agg (e.map (uO S))=_;rw [aOJ h]
 ·cases c <;> first |exact absurd ⟨_,rfl⟩ f |rfl | (simp [aJG,cN] at h)
theorem aRH {S:aD} {c:V} (h:cN c=true):kH S c:=by
 cases c <;> first |exact trivial | (simp [cN] at h)
theorem aEK {S:aD} {c:V} (h:aJG c=true):pH S c:=by
 cases c with
 |agg f=>intro x e;exact aRH (List.all_eq_true.1 h x e)
 |_=>first |exact trivial | (simp [aJG,cN] at h)
theorem aSQ {c:V} (h:cN c=true):aJG c=true:=by
 cases c <;> first |rfl |exact h | (simp [cN] at h)
theorem aRZ {S:aD} {g:FuncId} {e:List V} {x f:V} {B:Bool} {K:V->Prop} (j:e.all cN=true)(z:aJG x=true)(D:aM Tryz.prog g [] (x::e) f [])(E:aDU f=true)(h:K f):
 sK Tryz.prog g (x::e) S B K:=by
 refine⟨f,λ_=>⟨λv m=>?_,?_⟩,.inr E,h⟩
 ·rcases List.mem_cons.1 m with rfl |m
  ·exact aEK z
  ·exact aEK (aSQ (List.all_eq_true.1 j v m))
 ·have :(x::e).map (pur S)=x::e:=by
   rw [List.map_cons,aK1 z]
   congr 1
   rw [<-List.map_id' e,List.map_map];apply List.map_congr_left;intro c C;exact aK1 (aSQ (List.all_eq_true.1 j c C))
  rw [this];exact D
theorem bQN(l:List Int)(t:Bool)(g:FuncId)(f:List V)(p:Int->Bool)(hg:jL Tryz.prog g)(m:f.all cN=true)(G:∀x∈l,aM Tryz.prog g [] (.int .i64 x::f) (.bool (p x)) [])(J:(l.length:Int)<2^62):
 aM Tryz.prog 358 [] [.lst 1 t (aB l),.fn g f] (.int .i64 (eJ p l)) []:=by
 refine cK Tryz.func358 ?_;generalize C:eJ p l=q;refine Wk ?_;rw [aA];refine⟨Nat,λi=>i<=l.length/\∀j (B:j<i) (h:j<l.length),p l[j]=false,λi=>⟨[(0,⟨[],true,.lst 1 t (aB l)⟩),(1,⟨[],true,.fn g f⟩),(4,⟨[],true,.int .i64 0⟩),(7,⟨[],true,.int .i64 (l.length:Int)⟩),(8,⟨[],true,.int .i64 (i:Int)⟩)],[],0⟩,λi=>l.length-i,⟨0,⟨by omega,λj B=>by omega⟩,?_⟩,λi E=>?_⟩
 ·refine bU [] rfl rfl ?_ rfl ?_ rfl ?_
  repeat' (first |exact trivial |rfl |exact .inl rfl |exact .inr rfl |exact id |exact zbc |apply And.intro)
  exact lT m
 obtain⟨F,z⟩:=E;refine Wk ?_;refine aC (λh2=>?_) (λh2=>?_)<;> try simp only [zC,zA,zD,zE,zF,aA] at h2
 ·have h2:i<l.length:=by simp at h2;omega
  refine Wk ?_;refine aG (⟨rfl,by omega,by rw [aA];omega⟩) ?_;rw [zI,bS l i h2];refine Wk ?_;refine⟨hg,.inl (aRZ m rfl (G _ (zO h2)) rfl ?_)⟩;refine Wk ?_;refine aC (λD=>?_) (λD=>?_)<;> try simp only [zC,zA,zD,zE,zF,aA] at D
  ·have :q=i:=by rw [<-C];exact rZ _ l i h2 (λj B=>z j B (by omega)) D
   subst this;refine Wk ?_
   try subst C
   exact Lf
  refine Wk ?_;rw [aP (n:=(i:Int)+1) (by omega) (by omega),show((i:Int)+1)=((i+1:Nat):Int) by omega];refine⟨i+1,⟨by omega,λj B h=>?_⟩,?_,by show l.length- (i+1)<l.length-i;omega⟩
  ·by_cases e:j=i
   ·subst e;exact D
   ·exact z j (by omega) h
  refine bU [] rfl rfl ?_ rfl ?_ rfl ?_
  repeat' (first |exact trivial |rfl |exact .inl rfl |exact .inr rfl |exact id |exact zbc |apply And.intro)
  exact lT m
 have h2:i=l.length:=by simp at h2;omega
 have :q= -1:=by rw [<-C];exact lU _ l λy H=>by obtain⟨j,B,rfl⟩:=zL H;exact z j (by omega) B
 subst this;refine Wk ?_
 try subst C
 exact Lf
structure Zn where
 first :Int
 size:Int
 min:Int
 low:Int
 high:Int
 free:List Int
 ex:Bool
def Zn.c(z:Zn):List V:= [.int .i64 z.first,.int .i64 z.size,.int .i64 z.min,.int .i64 z.low,.int .i64 z.high,.lst 1 z.ex (aB z.free)]
def gK:Zn:=⟨0,0,0,0,0,[],true⟩
def aK(L:List Zn):List (List V):=L.map Zn.c
theorem aF(L:List Zn):(aK L).length=L.length:=by simp [aK]
theorem fC(L:List Zn)(i:Nat)(h:i<L.length):(aK L).getD i []=(L[i]'h).c:=by simp [aK,zG,h]
theorem bQ3(l:List Zn)(t:Bool)(g:FuncId)(f:List V)(p:Zn->Bool)(hg:jL Tryz.prog g)(m:f.all cN=true)(G:∀x∈l,aM Tryz.prog g [] (.agg x.c::f) (.bool (p x)) [])(J:(l.length:Int)<2^62):
 aM Tryz.prog 305 [] [.lst 6 t (aK l),.fn g f] (.int .i64 (eJ p l)) []:=by
 refine cK Tryz.func305 ?_;generalize C:eJ p l=q;refine Wk ?_;rw [aF];refine⟨Nat,λi=>i<=l.length/\∀j (B:j<i) (h:j<l.length),p l[j]=false,λi=>⟨[(0,⟨[],true,.lst 6 t (aK l)⟩),(1,⟨[],true,.fn g f⟩),(4,⟨[],true,.int .i64 0⟩),(7,⟨[],true,.int .i64 (l.length:Int)⟩),(8,⟨[],true,.int .i64 (i:Int)⟩)],[],0⟩,λi=>l.length-i,⟨0,⟨by omega,λj B=>by omega⟩,?_⟩,λi E=>?_⟩
 ·refine bU [] rfl rfl ?_ rfl ?_ rfl ?_
  repeat' (first |exact trivial |rfl |exact .inl rfl |exact .inr rfl |exact id |exact zbc |apply And.intro)
  exact lT m
 obtain⟨F,z⟩:=E;refine Wk ?_;refine aC (λh2=>?_) (λh2=>?_)<;> try simp only [zC,zA,zD,zE,zF,aA] at h2
 ·have h2:i<l.length:=by simp at h2;omega
  refine Wk ?_;refine aG (⟨rfl,by omega,by rw [aF];omega⟩) ?_;rw [zI,fC l i h2];refine Wk ?_;refine⟨hg,.inl (aRZ m rfl (G _ (zO h2)) rfl ?_)⟩;refine Wk ?_;refine aC (λD=>?_) (λD=>?_)<;> try simp only [zC,zA,zD,zE,zF,aA] at D
  ·have :q=i:=by rw [<-C];exact rZ _ l i h2 (λj B=>z j B (by omega)) D
   subst this;refine Wk ?_
   try subst C
   exact Lf
  refine Wk ?_;rw [aP (n:=(i:Int)+1) (by omega) (by omega),show((i:Int)+1)=((i+1:Nat):Int) by omega];refine⟨i+1,⟨by omega,λj B h=>?_⟩,?_,by show l.length- (i+1)<l.length-i;omega⟩
  ·by_cases e:j=i
   ·subst e;exact D
   ·exact z j (by omega) h
  refine bU [] rfl rfl ?_ rfl ?_ rfl ?_
  repeat' (first |exact trivial |rfl |exact .inl rfl |exact .inr rfl |exact id |exact zbc |apply And.intro)
  exact lT m
 have h2:i=l.length:=by simp at h2;omega
 have :q= -1:=by rw [<-C];exact lU _ l λy H=>by obtain⟨j,B,rfl⟩:=zL H;exact z j (by omega) B
 subst this;refine Wk ?_
 try subst C
 exact Lf
def lC(z:Zn):Int:=IntKind.i64.wrap (z.first+z.size)
theorem aTN(z:Zn):aM Tryz.prog 292 [] [.agg z.c] (.int .i64 (lC z)) []:=by refine cK Tryz.func292 ?_;refine Wk ?_;exact Lf
def jY(z:Zn)(f:Int):Bool:=((z.first != f||decide (z.size<1))||decide (64<z.size))||decide (65<lC z)
def lH(z:Zn):Bool:=((decide (z.min<0)||decide (z.low<z.min))||decide (z.high<z.low))||decide (z.size<z.high)
def mG(lo hi:Int)(l:List Int)(i:Nat):Bool:=(decide (l.getD i 0<lo)||decide (hi<=l.getD i 0))||(decide (0< (i:Int))&&decide (l.getD i 0<=l.getD (i-1) 0))
def aA4(lo hi:Int)(l:List Int):Nat->Bool
 |0=>true
 |i+1=>aA4 lo hi l i&& !mG lo hi l i
theorem vE(lo hi:Int)(l:List Int):∀(n i:Nat),i<n->aA4 lo hi l n=true->mG lo hi l i=false
 |0,_,h,_=>by omega
 |n+1,i,h,f=>by
  simp only [aA4,zJ,zD] at f
  by_cases e:i=n
  ·subst e;exact f.2
  ·exact vE lo hi l n i (by omega) f.1
theorem aN6(lo hi:Int)(l:List Int)(n i:Nat)(h:i<n)(e:mG lo hi l i=true):aA4 lo hi l n=false:=by
 cases f:aA4 lo hi l n with
 |false=>rfl
 |true=>rw [vE lo hi l n i h f] at e;cases e
def kI(z:Zn)(f:Int):Bool:=bif jY z f then false else bif lH z then false else aA4 z.first (lC z) z.free z.free.length
theorem fO(l:List Int)(i:Nat)(h:i<l.length):l[i]=l.getD i 0:=by simp [zG,h]
theorem aC1(i:Nat)(hi:(i:Int)<2^62):(IntKind.i64.wrap ((i:Int)-1)).toNat=i-1:=by rw [aP (by omega) (by omega)];omega
theorem rD(i:Nat)(hi:(i:Int)<2^62):IntKind.i64.wrap ((i:Int)-1)=(i:Int)-1:=aP (by omega) (by omega)
theorem bPZ(z:Zn)(f:Int)(E:(z.free.length:Int)<2^62):aM Tryz.prog 291 [] [.agg z.c,.int .i64 f] (.bool (kI z f)) []:=by
 refine cK Tryz.func291 ?_;generalize e:kI z f=q;refine cO (aTN z) ?_;refine aC (λm=>?_) (λm=>?_)<;> try simp only [zC,zA,zD,zE,zF] at m
 ·have m:jY z f=true:=m;simp only [kI,m,zct] at e;subst e;refine Wk ?_
  try subst e
  exact Lf
 have m:jY z f=false:=m;simp only [kI,m,zcf] at e;refine Wk ?_;refine aC (λh2=>?_) (λh2=>?_)<;> try simp only [zC,zA,zD,zE,zF] at h2
 ·have h2:lH z=true:=h2;simp only [h2,zct] at e;subst e;refine Wk ?_
  try subst e
  exact Lf
 have h2:lH z=false:=h2;simp only [h2,zcf] at e;refine Wk ?_;rw [aA];refine⟨Nat,λi=>i<=z.free.length/\aA4 z.first (lC z) z.free i=true,λi=>⟨[(1,⟨[],true,.int .i64 f⟩),(2,⟨[],true,.ptr 0 0 0⟩),(4,⟨[],true,.bool false⟩),(51,⟨[],true,.lst 1 z.ex (aB z.free)⟩),(52,⟨[],true,.int .i64 (z.free.length:Int)⟩),(53,⟨[],true,.int .i64 (i:Int)⟩)],[(0,.box z.c)],1⟩,λi=>z.free.length-i,⟨0,⟨by omega,rfl⟩,?_⟩,λi C=>?_⟩
 ·exact Vw [some 0]
 obtain⟨D,B⟩:=C;refine Wk ?_;refine aC (λj=>?_) (λj=>?_)<;> try simp only [zC,zA,zD,zE,zF] at j
 ·have j:i<z.free.length:=by simp at j;omega
  refine Wk ?_;refine aG (⟨rfl,by omega,by rw [aA];omega⟩) ?_;rw [zI,bS z.free i j];refine cO (aTN z) ?_;rw [aC1 i (by omega)];refine kE (λhg=>⟨rfl,?_,?_⟩) ?_
  ·simp only [zJ,decide_eq_true_eq] at hg;rw [rD i (by omega)];omega
  ·rw [rD i (by omega),aA];omega
  rw [bS z.free (i-1) (by omega)];refine Wk ?_;rw [fO,fO];refine aC (λh4=>?_) (λh4=>?_)<;> try simp only [zC,zA,zD,zE,zF] at h4
  ·have h4:mG z.first (lC z) z.free i=true:=h4;rw [aN6 _ _ _ _ i j h4] at e;subst e;refine Wk ?_
   try subst e
   exact Lf
  have h4:mG z.first (lC z) z.free i=false:=h4;refine Wk ?_;rw [aP (n:=(i:Int)+1) (by omega) (by omega),show((i:Int)+1)=((i+1:Nat):Int) by omega];refine⟨i+1,⟨by omega,by simp only [aA4,B,h4];rfl⟩,?_,by show z.free.length- (i+1)<z.free.length-i;omega⟩;exact Vw [some 0]
 have j:i=z.free.length:=by simp at j;omega
 rw [<-j,B] at e;subst e;refine Wk ?_
 try subst e
 exact Lf
end Go.Proofs.YtmhapcbjjpadnaaGreat
