/- Caches. -/
import Derived.Test.YtmhapcbjjpadnaaGreatProg
import Derived.Test.YtmhapcbjjpadnaaGreatK8g
import Derived.KernelRfl
set_option linter.all false
set_option maxRecDepth 40000
open Array renaming getElem?_eq_getElem→zN
open Bool renaming cond_false_right→zA,cond_true_left→zC,not_eq_true'→zD,not_eq_false'→zE,not_not→zF,and_eq_true→zJ
open Int renaming toNat_natCast→zI
open List renaming getD_eq_getElem?_getD→zG,replicate_zero→zH,length_nil→zK,getElem_of_mem→zL,exists_cons_of_ne_nil→zM,getElem_mem→zO
open Nat renaming zero_add→zP
namespace Go.Proofs.YtmhapcbjjpadnaaGreat
open Go Go.Sk Go.RowKit
instance:Go.Sk.gI:=⟨λ_=>none,[147,156,284]⟩
def aMT(x n:Int):Int:=IntKind.i64.wrap ((IntKind.u64.wrap x).tmod (IntKind.u64.wrap n))
theorem bNF(x n:Int)(e:IntKind.u64.wrap n≠0):aM Tryz.prog 14 [] [.int .i64 x,.int .i64 n] (.int .i64 (aMT x n)) []:=by refine cF Tryz.func14 ?_;refine Wk ?_;refine aI (e) ?_;refine Wk ?_;exact Lf
def aB(L:List Int):List (List V):=L.map λx=> [.int .i64 x]
def aTO(L:List Int)(I:Int):Sk.Obj:=.box [.lst 1 false (aB L),.int .i64 I]
theorem aA(L:List Int):(aB L).length=L.length:=by simp [aB]
theorem bQ(L:List Int)(i:Nat)(h:i<L.length):(aB L).getD i []=[.int .i64 (L[i]'h)]:=by simp [aB,zG,h]
theorem aCR:∀(M:List (List Int×V)) (j:List Int) (v:V) (x:List Int) (z:V),fE (iL M j v) x z=if x=j then v else fE M x z
 | [],j,v,x,z=>by
   simp only [iL,fE]
   by_cases h:x=j
   ·simp [h]
   ·rw [if_neg h,if_neg (λe=>h e.symm)]
 | (k,u)::r,j,v,x,z=>by
   simp only [iL]
   by_cases m:k=j
   ·subst m;simp only [if_true,fE]
    by_cases f:k=x
    ·subst f;simp
    ·simp [f,Ne.symm f]
   ·simp only [if_neg m,fE,aCR r j v x z]
    by_cases f:k=x
    ·subst f;simp [m]
    ·simp [f]
theorem dL {xs:List (List V)} {n:Nat} (h:xs.length=n):(xs.drop 0).take n=xs:=by subst h;simp
theorem bRL(L:List Int)(I n:Int)(B:IntKind.u64.wrap n≠0)(hI:0<=I)(j:I< (L.length:Int))(C:(L.length:Int)<2^62):
 aM Tryz.prog 15 [aTO L I] [.ptr 0 0 0,.int .i64 n] (.int .i64 (aMT (L.getD I.toNat 0) n)) [aTO L (I+1)]:=by
 have e:(aB L).length=L.length:=by simp [aB]
 refine eY (ob0:= [aTO L I]) [] Tryz.func15 rfl rfl rfl rfl ?_;refine Wk ?_;refine aC (λh=>?_) (λ_=>?_)
 ·rw [e] at h;exact absurd (of_decide_eq_true h) (by omega)
 refine Wk ?_;have m:IntKind.i64.wrap (I+1)=I+1:=by rw [IntKind.wrap_i64];omega
 have z:IntKind.i64.wrap (I+1-1)=I:=by rw [IntKind.wrap_i64];omega
 rw [m,z];refine⟨λ_=>⟨rfl,hI,by rw [e];exact j⟩,?_⟩
 have f:(aB L).getD I.toNat []=[.int .i64 (L.getD I.toNat 0)]:=by
  have :I.toNat<L.length:=by omega
  simp [aB,zG,this]
 rw [f];refine cL (bNF _ _ B) ?_;exact⟨[some 0],Cl,rfl,Cl,rfl,Cl⟩
def nxV(L:List Int)(I:Nat)(n:Int):Int:=bif decide (L.length<=I) then 0 else aMT (L.getD I 0) n
def nxI(L:List Int)(I:Nat):Nat:=bif decide (L.length<=I) then I else I+1
def oH(L:List Int)(I:Nat):Sk.Obj:=aTO L (I:Int)
theorem bAZ {n:Int} (e:0<n)(h1:n<4611686018427387904):IntKind.u64.wrap n=n:=by rw [IntKind.wrap_u64];omega
theorem aRR(x n:Int)(e:0<n)(h1:n<4611686018427387904):0<=aMT x n/\aMT x n<n:=by
 unfold aMT;rw [bAZ e h1];have m:0<=IntKind.u64.wrap x:=by rw [IntKind.wrap_u64];omega
 have f:=Int.tmod_nonneg n m;have j:=Int.tmod_lt_of_pos (IntKind.u64.wrap x) e;rw [aN (by omega) (by omega)];exact⟨f,j⟩
theorem aYU(L:List Int)(I:Nat)(n:Int)(e:0<n)(h1:n<4611686018427387904):0<=nxV L I n/\nxV L I n<n:=by
 unfold nxV
 cases decide (L.length<=I) with
 |true=>exact⟨by simp,by simpa using e⟩
 |false=>exact aRR _ n e h1
theorem aYT(L:List Int)(I:Nat)(h:I<=L.length):nxI L I<=L.length:=by
 unfold nxI
 by_cases e:L.length<=I
 ·simp [e];exact h
 ·simp [e];omega
theorem bG9(L:List Int)(I:Nat)(n:Int)(z:(L.length:Int)<2^62)(hI:I<=L.length)(f:0<n)(h1:n<4611686018427387904):
 aM Tryz.prog 15 [oH L I] [.ptr 0 0 0,.int .i64 n] (.int .i64 (nxV L I n)) [oH L (nxI L I)]:=by
 have m:IntKind.u64.wrap n≠0:=by rw [bAZ f h1];omega
 by_cases j:I<L.length
 ·have e1:nxV L I n=aMT (L.getD I 0) n:=by simp [nxV,show ¬L.length<=I by omega]
  have e:nxI L I=I+1:=by simp [nxI,show ¬L.length<=I by omega]
  have :=bRL L I n m (by omega) (by omega) (by omega);rw [e1,e];simpa [oH] using this
 ·have e1:nxV L I n=0:=by simp [nxV,show L.length<=I by omega]
  have e:nxI L I=I:=by simp [nxI,show L.length<=I by omega]
  rw [e1,e];refine eY (ob0:= [oH L I]) [] Tryz.func15 rfl rfl rfl rfl ?_;refine Wk ?_;rw [aA];refine aC (λh=>?_) (λh=>?_)
  ·refine Wk ?_;refine⟨[some 0],?_,rfl,?_,rfl,?_⟩
   ·exact⟨⟨⟨.inl rfl,λh=>h,rfl⟩,⟨rfl,rfl⟩,trivial⟩,trivial⟩
   ·exact⟨rfl,trivial⟩
   ·conv=>whnf
    exact⟨rfl,rfl⟩
  ·simp at h;omega
def eD {α:Type} (p:α->Bool):List α->Int
 | []=> -1
 |x::r=>bif p x then 0 else bif decide (eD p r<0) then -1 else eD p r+1
theorem aKU {α:Type} (p:α->Bool):∀l:List α,-1<=eD p l/\eD p l<l.length
 | []=>by simp [eD]
 |x::r=>by
  have :=aKU p r;simp only [eD,List.length_cons];cases p x <;> simp only [zct,zcf]
  ·by_cases h:eD p r<0 <;> simp [h] <;> omega
  ·omega
theorem rR {α:Type} (p:α->Bool):∀(l:List α) (i:Nat) (h:i<l.length),(∀j (e:j<i),p (l[j]'(by omega))=false)->p l[i]=true->eD p l=i
 | [],i,h,_,_=>by simp at h
 |x::r,0,_,_,h2=>by simp only [List.getElem_cons_zero] at h2;simp [eD,h2]
 |x::r,i+1,h,h1,h2=>by
  have f:p x=false:=by simpa using h1 0 (by omega)
  have m:=rR p r i (by simpa using h) (λj e=>by simpa using h1 (j+1) (by omega)) (by simpa using h2);simp only [eD,f,zcf,m,show ¬(i:Int)<0 by omega,decide_false];omega
theorem lI {α:Type} (p:α->Bool):∀(l:List α),(∀x∈l,p x=false)->eD p l= -1
 | [],_=>rfl
 |x::r,h=>by have e:p x=false:=h x (by simp);have j:=lI p r (λy f=>h y (by simp [f]));simp [eD,e,j]
theorem tV {α:Type} (p:α->Bool):∀(l:List α),eD p l<0↔∀x∈l,p x=false
 | []=>by simp [eD]
 |x::r=>by
  have e:=tV p r;simp only [eD,List.mem_cons,forall_eq_or_imp];cases j:p x <;> simp only [zct,zcf]
  ·by_cases h:eD p r<0
   ·simp only [h,decide_true,zct];exact⟨λ_=>⟨trivial,e.1 h⟩,λ_=>by omega⟩
   ·simp only [h,decide_false,zcf];exact⟨λf=>absurd f (by omega),λf=>absurd (e.2 f.2) h⟩
  ·exact⟨λh=>absurd h (by omega),λh=>by cases h.1⟩
theorem qF {α:Type} (p:α->Bool)(l:List α)(h:0<=eD p l):∃(i:Nat) (hi:i<l.length),eD p l=i/\p l[i]=true/\∀j (m:j<i),p (l[j]'(by omega))=false:=by
 induction l with
 |nil=>simp [eD] at h
 |cons x r B=>
  cases f:p x with
  |true=>exact⟨0,by simp,by simp [eD,f],f,λj m=>by omega⟩
  |false=>
   have z:0<=eD p r:=by apply Classical.byContradiction;intro C;simp [eD,f,show eD p r<0 by omega] at h
   obtain⟨i,hi,e,h1,h2⟩:=B z;refine⟨i+1,by simpa using hi,?_,by simpa using h1,λj m=>?_⟩
   ·simp only [eD,f,zcf,e,show ¬(i:Int)<0 by omega,decide_false];omega
   ·cases j with
    |zero=>exact f
    |succ j=>simpa using h2 j (by omega)
theorem aM.lst_cases {f:FuncId} {ob0 j:List Sk.Obj} {es:Nat} {t:Bool} {xs:List (List V)} {args:List V} {m:V} (h1:xs≠ []->aM Tryz.prog f ob0 (.lst es t xs::args) m j)
 (h2:xs=[]->∀(a:Option Addr) (cap:Nat),aM Tryz.prog f ob0 (.val (.slice a 0 cap)::args) m j):aM Tryz.prog f ob0 (.lst es t xs::args) m j:=by
 by_cases h:xs=[]
 ·subst h;intro U σ w e G F E;have z:0<e.size:=by rw [F];simp
  have D:=E 0 _ _ rfl (zN z);generalize H:e[0]=v at D;have B:e[0]? =some v:=by rw [zN z,H]
  cases D with
  | @lst _ _ _ _ a cap b o J q1 q2 K M N O Q=>
    refine h2 rfl a cap U σ w e G (by simpa using F) λi x c C hc=>?_
    cases i with
    |zero=> simp only [List.getElem?_cons_zero,zse] at C;subst C;rw [B] at hc;obtain rfl:=zsi hc;exact .val _
    |succ i=>exact E (i+1) x c (by simpa using C) hc
 ·exact h1 h
theorem bOS(l:List Int)(t:Bool)(x:Int)(F:(l.length:Int)<2^62):aM Tryz.prog 306 [] [.lst 1 t (aB l),.int .i64 x] (.int .i64 (eD (λy=>x==y) l)) []:=by
 refine cF Tryz.func306 ?_;generalize z:eD (λy=>x==y) l=q;refine Wk ?_;rw [aA];refine⟨Nat,λi=>i<=l.length/\∀j (m:j<i) (h:j<l.length),(x==l[j])=false,λi=>⟨[(0,⟨[],true,.lst 1 t (aB l)⟩),(1,⟨[],true,.int .i64 x⟩),(4,⟨[],true,.int .i64 0⟩),(7,⟨[],true,.int .i64 (l.length:Int)⟩),(8,⟨[],true,.int .i64 (i:Int)⟩)],[],0⟩,λi=>l.length-i,⟨0,⟨by omega,λj m=>by omega⟩,?_⟩,λi C=>?_⟩
 ·exact Vw []
 obtain⟨D,f⟩:=C;refine Wk ?_;refine aC (λh2=>?_) (λh2=>?_)<;> try simp only [zC,zA,zD,zE,zF,aA] at h2
 ·have h2:i<l.length:=by simp at h2;omega
  refine Wk ?_;refine aI (⟨rfl,by omega,by rw [aA];omega⟩) ?_;rw [zI,bQ l i h2];refine Wk ?_;refine aC (λB=>?_) (λB=>?_)<;> try simp only [zC,zA,zD,zE,zF,aA] at B
  ·have :q=i:=by rw [<-z];exact rR _ l i h2 (λj m=>f j m (by omega)) B
   subst this;refine Wk ?_
   try subst z
   exact Lf
  refine Wk ?_;rw [aN (n:=(i:Int)+1) (by omega) (by omega),show((i:Int)+1)=((i+1:Nat):Int) by omega];refine⟨i+1,⟨by omega,λj m h=>?_⟩,?_,by show l.length- (i+1)<l.length-i;omega⟩
  ·by_cases e:j=i
   ·subst e;exact B
   ·exact f j (by omega) h
  exact Vw []
 have h2:i=l.length:=by simp at h2;omega
 have :q= -1:=by rw [<-z];exact lI _ l λy E=>by obtain⟨j,m,rfl⟩:=zL E;exact f j (by omega) m
 subst this;refine Wk ?_
 try subst z
 exact Lf
theorem bMI(l:List Int)(x:Int):decide (0<=eD (λy=>x==y) l)=decide (x∈l):=by
 rw [Bool.eq_iff_iff,decide_eq_true_eq,decide_eq_true_eq];have h:=tV (λy=>x==y) l;constructor
 ·intro e;obtain⟨i,f,-,h1,-⟩:=qF _ l e;have :x=l[i]:=by simpa using h1
  rw [this];exact zO f
 ·intro j;apply Classical.byContradiction;intro m;have :=h.1 (by omega) x j;simp at this
theorem aO1(l:List Int)(t:Bool)(x:Int)(e:(l.length:Int)<2^62):aM Tryz.prog 228 [] [.lst 1 t (aB l),.int .i64 x] (.bool (decide (x∈l))) []:=by rw [<-bMI];refine cF Tryz.func228 ?_;refine cL (bOS l t x e) ?_;exact Lf
theorem sO(e:List (List V))(t:Bool)(f:e.length*8<=140737488355328):aM Tryz.prog 107 [] [.lst 1 t e] (.sl 0 0 e.length) [.row 1 e]:=by
 refine aM.lst_cases (λj=>?_) (λz a cap=>?_)
 ·obtain⟨r,B,rfl⟩:=zM j;refine cF Tryz.func107 ?_;refine Wk ?_;refine cE (by simp only [zH,zK,zP];omega) (by simp only [zH,zK,zP];exact f) ?_;refine Wk ?_;refine⟨[some 1],?_,rfl,?_,rfl,?_⟩
  all_goals repeat' (first |exact trivial |rfl |exact .inl rfl |exact .inr rfl |exact id |exact zbc |apply And.intro)
  simp
 ·subst z
  cases a with
  |none=> refine cF Tryz.func107 ?_;refine Wk ?_;exact⟨[none],Cl,rfl,Cl,rfl,Cl⟩
  |some m=> refine cF Tryz.func107 ?_;refine Wk ?_;exact⟨[some 1],Cl,rfl,Cl,rfl,Cl⟩
theorem aSN(e:List (List V))(t:Bool)(f:e.length*64<=140737488355328):aM Tryz.prog 187 [] [.lst 6 t e] (.sl 0 0 e.length) [.row 6 e]:=by
 refine aM.lst_cases (λj=>?_) (λz a cap=>?_)
 ·obtain⟨r,B,rfl⟩:=zM j;refine cF Tryz.func187 ?_;refine Wk ?_;refine cE (by simp only [zH,zK,zP];omega) (by simp only [zH,zK,zP];exact f) ?_;refine Wk ?_;refine⟨[some 1],?_,rfl,?_,rfl,?_⟩
  all_goals repeat' (first |exact trivial |rfl |exact .inl rfl |exact .inr rfl |exact id |exact zbc |apply And.intro)
  simp
 ·subst z
  cases a with
  |none=> refine cF Tryz.func187 ?_;refine Wk ?_;exact⟨[none],Cl,rfl,Cl,rfl,Cl⟩
  |some m=> refine cF Tryz.func187 ?_;refine Wk ?_;exact⟨[some 1],Cl,rfl,Cl,rfl,Cl⟩
theorem bB7 {S:aD} {ids:List (Option Nat)} {c:V} (h:cI c=true):vw1 S ids c c:=by
 cases c <;> first |exact⟨rfl,rfl⟩|rfl |exact⟨.inl rfl,id,rfl⟩| (simp [cI] at h)
theorem lG {S:aD} {ids:List (Option Nat)} :∀ {l:List V},l.all cI=true->aMC (vw1 S ids) l l
 | [],_=>trivial
 |c::r,h=>by simp only [List.all_cons,zJ] at h;exact⟨bB7 h.1,lG h.2⟩
theorem aVG {S:aD} {c:V} (h:cI c=true):uC S c=c:=by
 cases c <;> first |rfl | (simp [cI] at h)
def aIV:V->Bool
 | .agg cs=>cs.all cI
 |v=>cI v
theorem aNR {S:aD} :∀ {l:List V},l.all cI=true->l.map (uC S)=l
 | [],_=>rfl
 |c::r,h=>by simp only [List.all_cons,zJ] at h;rw [List.map_cons,aVG h.1,aNR h.2]
theorem aJK {S:aD} {c:V} (h:aIV c=true):pur S c=c:=by
 by_cases f:∃e,c=.agg e
 ·obtain⟨e,rfl⟩:=f;show V.agg (e.map (uC S))=_;rw [aNR h]
 ·cases c <;> first |exact absurd ⟨_,rfl⟩ f |rfl | (simp [aIV,cI] at h)
theorem aQP {S:aD} {c:V} (h:cI c=true):jV S c:=by
 cases c <;> first |exact trivial | (simp [cI] at h)
theorem aDW {S:aD} {c:V} (h:aIV c=true):oS S c:=by
 cases c with
 |agg f=>intro x e;exact aQP (List.all_eq_true.1 h x e)
 |_=>first |exact trivial | (simp [aIV,cI] at h)
theorem aRY {c:V} (h:cI c=true):aIV c=true:=by
 cases c <;> first |rfl |exact h | (simp [cI] at h)
theorem aR6 {S:aD} {g:FuncId} {e:List V} {x f:V} {B:Bool} {K:V->Prop} (j:e.all cI=true)(z:aIV x=true)(C:aM Tryz.prog g [] (x::e) f [])(D:aD8 f=true)(h:K f):
 sD Tryz.prog g (x::e) S B K:=by
 refine⟨f,λ_=>⟨λv m=>?_,?_⟩,.inr D,h⟩
 ·rcases List.mem_cons.1 m with rfl |m
  ·exact aDW z
  ·exact aDW (aRY (List.all_eq_true.1 j v m))
 ·have :(x::e).map (pur S)=x::e:=by
   rw [List.map_cons,aJK z]
   congr 1
   rw [<-List.map_id' e,List.map_map];apply List.map_congr_left;intro c hc;exact aJK (aRY (List.all_eq_true.1 j c hc))
  rw [this];exact C
theorem bPB(l:List Int)(t:Bool)(g:FuncId)(f:List V)(p:Int->Bool)(hg:jE Tryz.prog g)(m:f.all cI=true)(G:∀x∈l,aM Tryz.prog g [] (.int .i64 x::f) (.bool (p x)) [])(J:(l.length:Int)<2^62):
 aM Tryz.prog 358 [] [.lst 1 t (aB l),.fn g f] (.int .i64 (eD p l)) []:=by
 refine cF Tryz.func358 ?_;generalize C:eD p l=q;refine Wk ?_;rw [aA];refine⟨Nat,λi=>i<=l.length/\∀j (B:j<i) (h:j<l.length),p l[j]=false,λi=>⟨[(0,⟨[],true,.lst 1 t (aB l)⟩),(1,⟨[],true,.fn g f⟩),(4,⟨[],true,.int .i64 0⟩),(7,⟨[],true,.int .i64 (l.length:Int)⟩),(8,⟨[],true,.int .i64 (i:Int)⟩)],[],0⟩,λi=>l.length-i,⟨0,⟨by omega,λj B=>by omega⟩,?_⟩,λi E=>?_⟩
 ·refine bV [] rfl rfl ?_ rfl ?_ rfl ?_
  repeat' (first |exact trivial |rfl |exact .inl rfl |exact .inr rfl |exact id |exact zbc |apply And.intro)
  exact lG m
 obtain⟨F,z⟩:=E;refine Wk ?_;refine aC (λh2=>?_) (λh2=>?_)<;> try simp only [zC,zA,zD,zE,zF,aA] at h2
 ·have h2:i<l.length:=by simp at h2;omega
  refine Wk ?_;refine aI (⟨rfl,by omega,by rw [aA];omega⟩) ?_;rw [zI,bQ l i h2];refine Wk ?_;refine⟨hg,.inl (aR6 m rfl (G _ (zO h2)) rfl ?_)⟩;refine Wk ?_;refine aC (λD=>?_) (λD=>?_)<;> try simp only [zC,zA,zD,zE,zF,aA] at D
  ·have :q=i:=by rw [<-C];exact rR _ l i h2 (λj B=>z j B (by omega)) D
   subst this;refine Wk ?_
   try subst C
   exact Lf
  refine Wk ?_;rw [aN (n:=(i:Int)+1) (by omega) (by omega),show((i:Int)+1)=((i+1:Nat):Int) by omega];refine⟨i+1,⟨by omega,λj B h=>?_⟩,?_,by show l.length- (i+1)<l.length-i;omega⟩
  ·by_cases e:j=i
   ·subst e;exact D
   ·exact z j (by omega) h
  refine bV [] rfl rfl ?_ rfl ?_ rfl ?_
  repeat' (first |exact trivial |rfl |exact .inl rfl |exact .inr rfl |exact id |exact zbc |apply And.intro)
  exact lG m
 have h2:i=l.length:=by simp at h2;omega
 have :q= -1:=by rw [<-C];exact lI _ l λy H=>by obtain⟨j,B,rfl⟩:=zL H;exact z j (by omega) B
 subst this;refine Wk ?_
 try subst C
 exact Lf
structure Zn where
 first :Int
 size:Int
 min:Int
 low:Int
 high:Int
 free:List Int
 ex:Bool
def Zn.c(z:Zn):List V:= [.int .i64 z.first,.int .i64 z.size,.int .i64 z.min,.int .i64 z.low,.int .i64 z.high,.lst 1 z.ex (aB z.free)]
def gU:Zn:=⟨0,0,0,0,0,[],true⟩
def aJ(L:List Zn):List (List V):=L.map Zn.c
theorem aF(L:List Zn):(aJ L).length=L.length:=by simp [aJ]
theorem eV(L:List Zn)(i:Nat)(h:i<L.length):(aJ L).getD i []=(L[i]'h).c:=by simp [aJ,zG,h]
theorem bOR(l:List Zn)(t:Bool)(g:FuncId)(f:List V)(p:Zn->Bool)(hg:jE Tryz.prog g)(m:f.all cI=true)(G:∀x∈l,aM Tryz.prog g [] (.agg x.c::f) (.bool (p x)) [])(J:(l.length:Int)<2^62):
 aM Tryz.prog 305 [] [.lst 6 t (aJ l),.fn g f] (.int .i64 (eD p l)) []:=by
 refine cF Tryz.func305 ?_;generalize C:eD p l=q;refine Wk ?_;rw [aF];refine⟨Nat,λi=>i<=l.length/\∀j (B:j<i) (h:j<l.length),p l[j]=false,λi=>⟨[(0,⟨[],true,.lst 6 t (aJ l)⟩),(1,⟨[],true,.fn g f⟩),(4,⟨[],true,.int .i64 0⟩),(7,⟨[],true,.int .i64 (l.length:Int)⟩),(8,⟨[],true,.int .i64 (i:Int)⟩)],[],0⟩,λi=>l.length-i,⟨0,⟨by omega,λj B=>by omega⟩,?_⟩,λi E=>?_⟩
 ·refine bV [] rfl rfl ?_ rfl ?_ rfl ?_
  repeat' (first |exact trivial |rfl |exact .inl rfl |exact .inr rfl |exact id |exact zbc |apply And.intro)
  exact lG m
 obtain⟨F,z⟩:=E;refine Wk ?_;refine aC (λh2=>?_) (λh2=>?_)<;> try simp only [zC,zA,zD,zE,zF,aA] at h2
 ·have h2:i<l.length:=by simp at h2;omega
  refine Wk ?_;refine aI (⟨rfl,by omega,by rw [aF];omega⟩) ?_;rw [zI,eV l i h2];refine Wk ?_;refine⟨hg,.inl (aR6 m rfl (G _ (zO h2)) rfl ?_)⟩;refine Wk ?_;refine aC (λD=>?_) (λD=>?_)<;> try simp only [zC,zA,zD,zE,zF,aA] at D
  ·have :q=i:=by rw [<-C];exact rR _ l i h2 (λj B=>z j B (by omega)) D
   subst this;refine Wk ?_
   try subst C
   exact Lf
  refine Wk ?_;rw [aN (n:=(i:Int)+1) (by omega) (by omega),show((i:Int)+1)=((i+1:Nat):Int) by omega];refine⟨i+1,⟨by omega,λj B h=>?_⟩,?_,by show l.length- (i+1)<l.length-i;omega⟩
  ·by_cases e:j=i
   ·subst e;exact D
   ·exact z j (by omega) h
  refine bV [] rfl rfl ?_ rfl ?_ rfl ?_
  repeat' (first |exact trivial |rfl |exact .inl rfl |exact .inr rfl |exact id |exact zbc |apply And.intro)
  exact lG m
 have h2:i=l.length:=by simp at h2;omega
 have :q= -1:=by rw [<-C];exact lI _ l λy H=>by obtain⟨j,B,rfl⟩:=zL H;exact z j (by omega) B
 subst this;refine Wk ?_
 try subst C
 exact Lf
def kT(z:Zn):Int:=IntKind.i64.wrap (z.first+z.size)
theorem aSS(z:Zn):aM Tryz.prog 292 [] [.agg z.c] (.int .i64 (kT z)) []:=by refine cF Tryz.func292 ?_;refine Wk ?_;exact Lf
def jO(z:Zn)(f:Int):Bool:=((z.first != f||decide (z.size<1))||decide (64<z.size))||decide (65<kT z)
def kW(z:Zn):Bool:=((decide (z.min<0)||decide (z.low<z.min))||decide (z.high<z.low))||decide (z.size<z.high)
def lU(lo hi:Int)(l:List Int)(i:Nat):Bool:=(decide (l.getD i 0<lo)||decide (hi<=l.getD i 0))||(decide (0< (i:Int))&&decide (l.getD i 0<=l.getD (i-1) 0))
def vM(lo hi:Int)(l:List Int):Nat->Bool
 |0=>true
 |i+1=>vM lo hi l i&& !lU lo hi l i
theorem uO(lo hi:Int)(l:List Int):∀(n i:Nat),i<n->vM lo hi l n=true->lU lo hi l i=false
 |0,_,h,_=>by omega
 |n+1,i,h,h1=>by
  simp only [vM,zJ,zD] at h1
  by_cases e:i=n
  ·subst e;exact h1.2
  ·exact uO lo hi l n i (by omega) h1.1
theorem aMD(lo hi:Int)(l:List Int)(n i:Nat)(h:i<n)(e:lU lo hi l i=true):vM lo hi l n=false:=by
 cases f:vM lo hi l n with
 |false=>rfl
 |true=>rw [uO lo hi l n i h f] at e;cases e
def jW(z:Zn)(f:Int):Bool:=bif jO z f then false else bif kW z then false else vM z.first (kT z) z.free z.free.length
theorem fM(l:List Int)(i:Nat)(h:i<l.length):l[i]=l.getD i 0:=by simp [zG,h]
theorem aBF(i:Nat)(hi:(i:Int)<2^62):(IntKind.i64.wrap ((i:Int)-1)).toNat=i-1:=by rw [aN (by omega) (by omega)];omega
theorem qS(i:Nat)(hi:(i:Int)<2^62):IntKind.i64.wrap ((i:Int)-1)=(i:Int)-1:=aN (by omega) (by omega)
theorem bON(z:Zn)(f:Int)(D:(z.free.length:Int)<2^62):aM Tryz.prog 291 [] [.agg z.c,.int .i64 f] (.bool (jW z f)) []:=by
 refine cF Tryz.func291 ?_;generalize e:jW z f=q;refine cL (aSS z) ?_;refine aC (λh1=>?_) (λh1=>?_)<;> try simp only [zC,zA,zD,zE,zF] at h1
 ·have h1:jO z f=true:=h1;simp only [jW,h1,zct] at e;subst e;refine Wk ?_
  try subst e
  exact Lf
 have h1:jO z f=false:=h1;simp only [jW,h1,zcf] at e;refine Wk ?_;refine aC (λh2=>?_) (λh2=>?_)<;> try simp only [zC,zA,zD,zE,zF] at h2
 ·have h2:kW z=true:=h2;simp only [h2,zct] at e;subst e;refine Wk ?_
  try subst e
  exact Lf
 have h2:kW z=false:=h2;simp only [h2,zcf] at e;refine Wk ?_;rw [aA];refine⟨Nat,λi=>i<=z.free.length/\vM z.first (kT z) z.free i=true,λi=>⟨[(1,⟨[],true,.int .i64 f⟩),(2,⟨[],true,.ptr 0 0 0⟩),(4,⟨[],true,.bool false⟩),(51,⟨[],true,.lst 1 z.ex (aB z.free)⟩),(52,⟨[],true,.int .i64 (z.free.length:Int)⟩),(53,⟨[],true,.int .i64 (i:Int)⟩)],[(0,.box z.c)],1⟩,λi=>z.free.length-i,⟨0,⟨by omega,rfl⟩,?_⟩,λi B=>?_⟩
 ·exact Vw [some 0]
 obtain⟨C,m⟩:=B;refine Wk ?_;refine aC (λj=>?_) (λj=>?_)<;> try simp only [zC,zA,zD,zE,zF] at j
 ·have j:i<z.free.length:=by simp at j;omega
  refine Wk ?_;refine aI (⟨rfl,by omega,by rw [aA];omega⟩) ?_;rw [zI,bQ z.free i j];refine cL (aSS z) ?_;rw [aBF i (by omega)];refine jS (λhg=>⟨rfl,?_,?_⟩) ?_
  ·simp only [zJ,decide_eq_true_eq] at hg;rw [qS i (by omega)];omega
  ·rw [qS i (by omega),aA];omega
  rw [bQ z.free (i-1) (by omega)];refine Wk ?_;rw [fM,fM];refine aC (λh4=>?_) (λh4=>?_)<;> try simp only [zC,zA,zD,zE,zF] at h4
  ·have h4:lU z.first (kT z) z.free i=true:=h4;rw [aMD _ _ _ _ i j h4] at e;subst e;refine Wk ?_
   try subst e
   exact Lf
  have h4:lU z.first (kT z) z.free i=false:=h4;refine Wk ?_;rw [aN (n:=(i:Int)+1) (by omega) (by omega),show((i:Int)+1)=((i+1:Nat):Int) by omega];refine⟨i+1,⟨by omega,by simp only [vM,m,h4];rfl⟩,?_,by show z.free.length- (i+1)<z.free.length-i;omega⟩;exact Vw [some 0]
 have j:i=z.free.length:=by simp at j;omega
 rw [<-j,m] at e;subst e;refine Wk ?_
 try subst e
 exact Lf
end Go.Proofs.YtmhapcbjjpadnaaGreat
