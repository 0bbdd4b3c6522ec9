/- Caches. -/
import Derived.Test.YtmhapcbjjpadnaaGreatProg
import Derived.Test.YtmhapcbjjpadnaaGreatK8
import Derived.KernelRfl
set_option linter.unusedSimpArgs false
set_option linter.unusedVariables false
set_option maxRecDepth 40000
namespace Go.Proofs.YtmhapcbjjpadnaaGreat
open Go Go.Sk Go.RowKit
instance:Go.Sk.fY:=⟨fun _=>none,[147,156]⟩
def aLM(x n:Int):Int:=IntKind.i64.wrap ((IntKind.u64.wrap x).tmod (IntKind.u64.wrap n))
theorem bJ4(x n:Int)(hn:IntKind.u64.wrap n≠0):aN Tryz.prog 14 [] [.int .i64 x,.int .i64 n] (.int .i64 (aLM x n)) []:=by
 refine aF (ob0:= []) [] Tryz.func14 rfl rfl rfl rfl ?_
 refine Wk ?_
 first |refine aB (hn) ?_ |refine aH (fun _=>hn) ?_ |refine⟨fun _=>hn,?_⟩
 refine Wk ?_
 try subst hk
 exact Lf
def aE(L:List Int):List (List V):=L.map fun x=> [.int .i64 x]
def aOS(L:List Int)(I:Int):Sk.Obj:=.box [.lst 1 false (aE L),.int .i64 I]
theorem aA(L:List Int):(aE L).length=L.length:=by simp [aE]
theorem bJ(L:List Int)(i:Nat)(h:i<L.length):(aE L).getD i []=[.int .i64 (L[i]'h)]:=by
 simp [aE,List.getD_eq_getElem?_getD,h]
theorem aFF:∀(M:List (List Int×V)) (j:List Int) (v:V) (x:List Int) (z:V),fB (gX M j v) x z=if x=j then v else fB M x z
 | [],j,v,x,z=>by
   simp only [gX,fB]
   by_cases h:x=j
   ·simp [h]
   ·rw [if_neg h,if_neg (fun e=>h e.symm)]
 | (k,u)::r,j,v,x,z=>by
   simp only [gX]
   by_cases hk:k=j
   ·subst hk
    simp only [if_true,fB]
    by_cases hx:k=x
    ·subst hx;simp
    ·simp [hx,Ne.symm hx]
   ·simp only [if_neg hk,fB,aFF r j v x z]
    by_cases hx:k=x
    ·subst hx;simp [hk]
    ·simp [hx]
theorem cV {xs:List (List V)} {n:Nat} (h:xs.length=n):(xs.drop 0).take n=xs:=by subst h;simp
theorem bJ5(L:List Int)(I n:Int)(hn:IntKind.u64.wrap n≠0)(hI:0≤I)(hlt:I< (L.length:Int))(hL:(L.length:Int)<2^62):
 aN Tryz.prog 15 [aOS L I] [.ptr 0 0 0,.int .i64 n] (.int .i64 (aLM (L.getD I.toNat 0) n)) [aOS L (I+1)]:=by
 have hlen:(aE L).length=L.length:=by simp [aE]
 refine aF (ob0:= [aOS L I]) [] Tryz.func15 rfl rfl rfl rfl ?_
 refine Wk ?_
 refine aC (fun h=>?_) (fun _=>?_)
 ·rw [hlen] at h;exact absurd (of_decide_eq_true h) (by omega)
 refine Wk ?_
 have hw1:IntKind.i64.wrap (I+1)=I+1:=by rw [IntKind.wrap_i64];omega
 have hw2:IntKind.i64.wrap (I+1-1)=I:=by rw [IntKind.wrap_i64];omega
 rw [hw1,hw2]
 first |refine aB (⟨rfl,hI,by rw [hlen];exact hlt⟩) ?_ |refine aH (fun _=>⟨rfl,hI,by rw [hlen];exact hlt⟩) ?_ |refine⟨fun _=>⟨rfl,hI,by rw [hlen];exact hlt⟩,?_⟩
 have hget:(aE L).getD I.toNat []=[.int .i64 (L.getD I.toNat 0)]:=by
  have :I.toNat<L.length:=by omega
  simp [aE,List.getD_eq_getElem?_getD,this]
 rw [hget]
 refine cC (bJ4 _ _ hn) ?_
 try subst hk
 exact⟨[some 0],Cl,rfl,Cl,rfl,Cl⟩
def nxV(L:List Int)(I:Nat)(n:Int):Int:=bif decide (L.length≤I) then 0 else aLM (L.getD I 0) n
def nxI(L:List Int)(I:Nat):Nat:=bif decide (L.length≤I) then I else I+1
def jF(L:List Int)(I:Nat):Sk.Obj:=aOS L (I:Int)
theorem aUV {n:Int} (h0:0<n)(h1:n<4611686018427387904):IntKind.u64.wrap n=n:=by rw [IntKind.wrap_u64];omega
theorem aW0(x n:Int)(h0:0<n)(h1:n<4611686018427387904):0≤aLM x n∧aLM x n<n:=by
 unfold aLM
 rw [aUV h0 h1]
 have hx:0≤IntKind.u64.wrap x:=by rw [IntKind.wrap_u64];omega
 have a1:=Int.tmod_nonneg n hx
 have a2:=Int.tmod_lt_of_pos (IntKind.u64.wrap x) h0
 rw [aO (by omega) (by omega)]
 exact⟨a1,a2⟩
theorem aM4(L:List Int)(I:Nat)(n:Int)(h0:0<n)(h1:n<4611686018427387904):0≤nxV L I n∧nxV L I n<n:=by
 unfold nxV
 cases decide (L.length≤I) with
 |true=>exact⟨by simp,by simpa using h0⟩
 |false=>exact aW0 _ n h0 h1
theorem aM2(L:List Int)(I:Nat)(h:I≤L.length):nxI L I≤L.length:=by
 unfold nxI
 by_cases h':L.length≤I
 ·simp [h'];exact h
 ·simp [h'];omega
set_option maxRecDepth 20000 in
theorem aT5(L:List Int)(I:Nat)(n:Int)(hL:(L.length:Int)<2^62)(hI:I≤L.length)(h0:0<n)(h1:n<4611686018427387904):
 aN Tryz.prog 15 [jF L I] [.ptr 0 0 0,.int .i64 n] (.int .i64 (nxV L I n)) [jF L (nxI L I)]:=by
 have hn:IntKind.u64.wrap n≠0:=by rw [aUV h0 h1];omega
 by_cases hlt:I<L.length
 ·have e1:nxV L I n=aLM (L.getD I 0) n:=by simp [nxV,show ¬L.length≤I by omega]
  have e2:nxI L I=I+1:=by simp [nxI,show ¬L.length≤I by omega]
  have :=bJ5 L I n hn (by omega) (by omega) (by omega)
  rw [e1,e2]
  simpa [jF] using this
 ·have e1:nxV L I n=0:=by simp [nxV,show L.length≤I by omega]
  have e2:nxI L I=I:=by simp [nxI,show L.length≤I by omega]
  rw [e1,e2]
  refine aF (ob0:= [jF L I]) [] Tryz.func15 rfl rfl rfl rfl ?_
  refine Wk ?_
  rw [aA]
  refine aC (fun h=>?_) (fun h=>?_)
  ·refine Wk ?_
   refine⟨[some 0],?_,rfl,?_,rfl,?_⟩
   ·exact⟨⟨⟨.inl rfl,fun h=>h,rfl⟩,⟨rfl,rfl⟩,trivial⟩,trivial⟩
   ·exact⟨rfl,trivial⟩
   ·conv=>whnf
    exact⟨rfl,rfl⟩
  ·simp at h;omega
def bET:List Int:= [0,1,2,3,4,7,8,15,16,63,64,128,255,256,-1,1000000,1000001,4611686018427387904,-9223372036854775808]
def bJ3(L:List Int)(I:Nat):Int:=bET.getD (nxV L I 19).toNat 0
theorem getLit {R:List (List V)} {M:List Int} (j:Int)(hR:R=aE M)(h0:0≤j)(h:j<M.length):R.getD (0+j.toNat) []=[.int .i64 (M.getD j.toNat 0)]:=by
 subst hR
 rw [Nat.zero_add]
 have :j.toNat<M.length:=by omega
 rw [bJ M _ this];simp [List.getD_eq_getElem?_getD,this]
theorem Wt {L:List Int} {G Q:Prop} (hL:(L.length:Int)<2^62)(q:Q)(h:(L.length:Int)<2^62→Hd Q→G:=by
 intro hL q
 (repeat((conv=>whnf);first |refine Cd.go ?_ |refine⟨rfl,?_⟩|refine aB ⟨.inl rfl,rfl⟩ ?_ |refine aB rfl ?_ |refine⟨Nat.le_of_ble_eq_true rfl,?_⟩|refine⟨.inl rfl,?_⟩|refine⟨fun _=>⟨rfl,Nat.le_of_ble_eq_true rfl⟩,?_⟩|refine⟨fun _=>Nat.le_of_ble_eq_true rfl,?_⟩|refine⟨fun h=>Bool.noConfusion h,?_⟩|refine .inr ⟨fun _=>⟨[0],_,_,_,aT5 _ _ _ hL (by omega) (by omega) (by omega),⟨rfl,trivial⟩,rfl,rfl,rfl,?_⟩,(by intro h;cases h)⟩))
 (conv=>whnf)
 exact q.h):G:=h hL ⟨q⟩
set_option maxRecDepth 20000 in
theorem bJ6(L:List Int)(I:Nat)(hL:(L.length:Int)<2^62)(hI:I≤L.length):aN Tryz.prog 34 [jF L I] [.ptr 0 0 0] (.int .i64 (bJ3 L I)) [jF L (nxI L I)]:=by
 refine aF (ob0:= [jF L I]) [] Tryz.func34 rfl rfl rfl rfl ?_
 refine Wt hL ?_
 have hv:=aM4 L I 19 (by omega) (by omega)
 first |refine aB (hv) ?_ |refine aH (fun _=>hv) ?_ |refine⟨fun _=>hv,?_⟩
 refine Wt hL ?_
 first |refine aB (by simp only [List.length_set,List.length_replicate];omega) ?_ |refine aH (fun _=>by simp only [List.length_set,List.length_replicate];omega) ?_ |refine⟨fun _=>by simp only [List.length_set,List.length_replicate];omega,?_⟩
 rw [getLit (M:=bET) _ ?hR hv.1 hv.2]
 case hR=>rfl
 refine Wt hL ?_
 try subst hk
 exact⟨[some 0],Cl,rfl,Cl,rfl,Cl⟩
end Go.Proofs.YtmhapcbjjpadnaaGreat
set_option maxRecDepth 40000
namespace Go.Proofs.YtmhapcbjjpadnaaGreat
open Go Go.Sk Go.RowKit
def dI {α:Type} (p:α→Bool):List α→Int
 | []=> -1
 |x::r=>bif p x then 0 else bif decide (dI p r<0) then -1 else dI p r+1
theorem aGW {α:Type} (p:α→Bool):∀l:List α,-1≤dI p l∧dI p l<l.length
 | []=>by simp [dI]
 |x::r=>by
  have :=aGW p r
  simp only [dI,List.length_cons]
  cases p x <;> simp only [cond_true,cond_false]
  ·by_cases h:dI p r<0 <;> simp [h] <;> omega
  ·omega
theorem oX {α:Type} (p:α→Bool):∀(l:List α) (i:Nat) (h:i<l.length),(∀j (hj:j<i),p (l[j]'(by omega))=false)→p l[i]=true→dI p l=i
 | [],i,h,_,_=>by simp at h
 |x::r,0,_,_,h2=>by simp only [List.getElem_cons_zero] at h2;simp [dI,h2]
 |x::r,i+1,h,h1,h2=>by
  have hx:p x=false:=by simpa using h1 0 (by omega)
  have ih:=oX p r i (by simpa using h) (fun j hj=>by simpa using h1 (j+1) (by omega)) (by simpa using h2)
  simp only [dI,hx,cond_false,ih,show ¬(i:Int)<0 by omega,decide_false]
  omega
theorem jI {α:Type} (p:α→Bool):∀(l:List α),(∀x∈l,p x=false)→dI p l= -1
 | [],_=>rfl
 |x::r,h=>by
  have hx:p x=false:=h x (by simp)
  have ih:=jI p r (fun y hy=>h y (by simp [hy]))
  simp [dI,hx,ih]
theorem rA {α:Type} (p:α→Bool):∀(l:List α),dI p l<0↔∀x∈l,p x=false
 | []=>by simp [dI]
 |x::r=>by
  have ih:=rA p r
  simp only [dI,List.mem_cons,forall_eq_or_imp]
  cases hx:p x <;> simp only [cond_true,cond_false]
  ·by_cases h:dI p r<0
   ·simp only [h,decide_true,cond_true];exact⟨fun _=>⟨trivial,ih.1 h⟩,fun _=>by omega⟩
   ·simp only [h,decide_false,cond_false];exact⟨fun h'=>absurd h' (by omega),fun h'=>absurd (ih.2 h'.2) h⟩
  ·exact⟨fun h=>absurd h (by omega),fun h=>by cases h.1⟩
theorem nT {α:Type} (p:α→Bool)(l:List α)(h:0≤dI p l):∃(i:Nat) (hi:i<l.length),dI p l=i∧p l[i]=true∧∀j (hj:j<i),p (l[j]'(by omega))=false:=by
 induction l with
 |nil=>simp [dI] at h
 |cons x r ih=>
  cases hx:p x with
  |true=>exact⟨0,by simp,by simp [dI,hx],hx,fun j hj=>by omega⟩
  |false=>
   have hr:0≤dI p r:=by
    apply Classical.byContradiction;intro hn
    simp [dI,hx,show dI p r<0 by omega] at h
   obtain⟨i,hi,e,h1,h2⟩:=ih hr
   refine⟨i+1,by simpa using hi,?_,by simpa using h1,fun j hj=>?_⟩
   ·simp only [dI,hx,cond_false,e,show ¬(i:Int)<0 by omega,decide_false];omega
   ·cases j with
    |zero=>exact hx
    |succ j=>simpa using h2 j (by omega)
theorem aN.lst_cases {f:FuncId} {ob0 ob1:List Sk.Obj} {es:Nat} {t:Bool} {xs:List (List V)} {args:List V} {res:V} (h1:xs≠ []→aN Tryz.prog f ob0 (.lst es t xs::args) res ob1)
 (h2:xs=[]→∀(a:Option Addr) (cap:Nat),aN Tryz.prog f ob0 (.val (.slice a 0 cap)::args) res ob1):aN Tryz.prog f ob0 (.lst es t xs::args) res ob1:=by
 by_cases h:xs=[]
 ·subst h
  intro U σ w cargs hR hl ha
  have hlt:0<cargs.size:=by rw [hl];simp
  have h0:=ha 0 _ _ rfl (Array.getElem?_eq_getElem hlt)
  generalize hv:cargs[0]=v at h0
  have hv':cargs[0]? =some v:=by rw [Array.getElem?_eq_getElem hlt,hv]
  cases h0 with
  | @lst _ _ _ _ a cap b o cv q1 q2 q3 q4 q5 q6 q7=>
    refine h2 rfl a cap U σ w cargs hR (by simpa using hl) fun i x c hx hc=>?_
    cases i with
    |zero=>
     simp only [List.getElem?_cons_zero,Option.some.injEq] at hx
     subst hx
     rw [hv'] at hc
     obtain rfl:=Option.some.inj hc
     exact .val _
    |succ i=>exact ha (i+1) x c (by simpa using hx) hc
 ·exact h1 h
theorem bGG(l:List Int)(t:Bool)(x:Int)(hl:(l.length:Int)<2^62):aN Tryz.prog 306 [] [.lst 1 t (aE l),.int .i64 x] (.int .i64 (dI (fun y=>x==y) l)) []:=by
 refine aF (ob0:= []) [] Tryz.func306 rfl rfl rfl rfl ?_
 generalize hk:dI (fun y=>x==y) l=q
 refine Wk ?_
 rw [aA]
 refine⟨Nat,fun i=>i≤l.length∧∀j (hj:j<i) (h:j<l.length),(x==l[j])=false,fun i=>⟨[(0,⟨[],true,.lst 1 t (aE l)⟩),(1,⟨[],true,.int .i64 x⟩),(4,⟨[],true,.int .i64 0⟩),(7,⟨[],true,.int .i64 (l.length:Int)⟩),(8,⟨[],true,.int .i64 (i:Int)⟩)],[],0⟩,fun i=>l.length-i,⟨0,⟨by omega,fun j hj=>by omega⟩,?_⟩,fun i hI=>?_⟩
 ·exact Vw []
 obtain⟨hI1,hI2⟩:=hI
 refine Wk ?_
 refine aC (fun h2=>?_) (fun h2=>?_)<;> try simp only [Bool.cond_true_left,Bool.cond_false_right,Bool.not_eq_true',Bool.not_eq_false',Bool.not_not,aA] at h2
 ·have h2:i<l.length:=by simp at h2;omega
  refine Wk ?_
  first |refine aB (⟨rfl,by omega,by rw [aA];omega⟩) ?_ |refine aH (fun _=>⟨rfl,by omega,by rw [aA];omega⟩) ?_ |refine⟨fun _=>⟨rfl,by omega,by rw [aA];omega⟩,?_⟩
  rw [Int.toNat_natCast,bJ l i h2]
  refine Wk ?_
  refine aC (fun h3=>?_) (fun h3=>?_)<;> try simp only [Bool.cond_true_left,Bool.cond_false_right,Bool.not_eq_true',Bool.not_eq_false',Bool.not_not,aA] at h3
  ·have :q=i:=by rw [←hk];exact oX _ l i h2 (fun j hj=>hI2 j hj (by omega)) h3
   subst this
   refine Wk ?_
   try subst hk
   exact Lf
  refine Wk ?_
  rw [aO (n:=(i:Int)+1) (by omega) (by omega),show((i:Int)+1)=((i+1:Nat):Int) by omega]
  refine⟨i+1,⟨by omega,fun j hj h=>?_⟩,?_,by show l.length- (i+1)<l.length-i;omega⟩
  ·by_cases e:j=i
   ·subst e;exact h3
   ·exact hI2 j (by omega) h
  exact Vw []
 have h2:i=l.length:=by simp at h2;omega
 have :q= -1:=by rw [←hk];exact jI _ l fun y hy=>by obtain⟨j,hj,rfl⟩:=List.getElem_of_mem hy;exact hI2 j (by omega) hj
 subst this
 refine Wk ?_
 try subst hk
 exact Lf
theorem bED(l:List Int)(x:Int):decide (0≤dI (fun y=>x==y) l)=decide (x∈l):=by
 rw [Bool.eq_iff_iff,decide_eq_true_eq,decide_eq_true_eq]
 have h:=rA (fun y=>x==y) l
 constructor
 ·intro h0
  obtain⟨i,hi,-,h1,-⟩:=nT _ l h0
  have :x=l[i]:=by simpa using h1
  rw [this];exact List.getElem_mem hi
 ·intro hm
  apply Classical.byContradiction;intro hn
  have :=h.1 (by omega) x hm
  simp at this
theorem aTL(l:List Int)(t:Bool)(x:Int)(hl:(l.length:Int)<2^62):aN Tryz.prog 228 [] [.lst 1 t (aE l),.int .i64 x] (.bool (decide (x∈l))) []:=by
 rw [←bED]
 refine aF (ob0:= []) [] Tryz.func228 rfl rfl rfl rfl ?_
 refine cC (bGG l t x hl) ?_
 try subst hk
 exact Lf
theorem sV(rows:List (List V))(t:Bool)(hl:rows.length*8≤140737488355328):aN Tryz.prog 107 [] [.lst 1 t rows] (.sl 0 0 rows.length) [.row 1 rows]:=by
 refine aN.lst_cases (fun hne=>?_) (fun he a cap=>?_)
 ·obtain⟨r,rs,rfl⟩:=List.exists_cons_of_ne_nil hne
  refine aF (ob0:= []) [] Tryz.func107 rfl rfl rfl rfl ?_
  refine Wk ?_
  first |refine bA (by simp only [List.replicate_zero,List.length_nil,Nat.zero_add];omega) (by simp only [List.replicate_zero,List.length_nil,Nat.zero_add];exact hl) ?_ |refine aB ⟨by simp only [List.replicate_zero,List.length_nil,Nat.zero_add];omega,by simp only [List.replicate_zero,List.length_nil,Nat.zero_add];exact hl⟩ ?_ |refine⟨by simp only [List.replicate_zero,List.length_nil,Nat.zero_add];omega,by simp only [List.replicate_zero,List.length_nil,Nat.zero_add];exact hl,?_⟩
  refine Wk ?_
  try subst hk
  refine⟨[some 1],?_,rfl,?_,rfl,?_⟩
  all_goals repeat' (first |exact trivial |rfl |exact .inl rfl |exact .inr rfl |exact id |exact(fun h=>Bool.noConfusion h)|refine And.intro ?_ ?_)
  simp
 ·subst he
  cases a with
  |none=>
   refine aF (ob0:= []) [] Tryz.func107 rfl rfl rfl rfl ?_
   refine Wk ?_
   try subst hk
   exact⟨[none],Cl,rfl,Cl,rfl,Cl⟩
  |some ad=>
   refine aF (ob0:= []) [] Tryz.func107 rfl rfl rfl rfl ?_
   refine Wk ?_
   try subst hk
   exact⟨[some 1],Cl,rfl,Cl,rfl,Cl⟩
theorem aT9(rows:List (List V))(t:Bool)(hl:rows.length*64≤140737488355328):aN Tryz.prog 187 [] [.lst 6 t rows] (.sl 0 0 rows.length) [.row 6 rows]:=by
 refine aN.lst_cases (fun hne=>?_) (fun he a cap=>?_)
 ·obtain⟨r,rs,rfl⟩:=List.exists_cons_of_ne_nil hne
  refine aF (ob0:= []) [] Tryz.func187 rfl rfl rfl rfl ?_
  refine Wk ?_
  first |refine bA (by simp only [List.replicate_zero,List.length_nil,Nat.zero_add];omega) (by simp only [List.replicate_zero,List.length_nil,Nat.zero_add];exact hl) ?_ |refine aB ⟨by simp only [List.replicate_zero,List.length_nil,Nat.zero_add];omega,by simp only [List.replicate_zero,List.length_nil,Nat.zero_add];exact hl⟩ ?_ |refine⟨by simp only [List.replicate_zero,List.length_nil,Nat.zero_add];omega,by simp only [List.replicate_zero,List.length_nil,Nat.zero_add];exact hl,?_⟩
  refine Wk ?_
  try subst hk
  refine⟨[some 1],?_,rfl,?_,rfl,?_⟩
  all_goals repeat' (first |exact trivial |rfl |exact .inl rfl |exact .inr rfl |exact id |exact(fun h=>Bool.noConfusion h)|refine And.intro ?_ ?_)
  simp
 ·subst he
  cases a with
  |none=>
   refine aF (ob0:= []) [] Tryz.func187 rfl rfl rfl rfl ?_
   refine Wk ?_
   try subst hk
   exact⟨[none],Cl,rfl,Cl,rfl,Cl⟩
  |some ad=>
   refine aF (ob0:= []) [] Tryz.func187 rfl rfl rfl rfl ?_
   refine Wk ?_
   try subst hk
   exact⟨[some 1],Cl,rfl,Cl,rfl,Cl⟩
theorem aUY {S:aD} {ids:List (Option Nat)} {c:V} (h:cB c=true):vw1 S ids c c:=by
 cases c <;> first |exact⟨rfl,rfl⟩|rfl |exact⟨.inl rfl,id,rfl⟩| (simp [cB] at h)
theorem jH {S:aD} {ids:List (Option Nat)} :∀ {l:List V},l.all cB=true→aIB (vw1 S ids) l l
 | [],_=>trivial
 |c::r,h=>by
  simp only [List.all_cons,Bool.and_eq_true] at h
  exact⟨aUY h.1,jH h.2⟩
theorem aQ9 {S:aD} {c:V} (h:cB c=true):rF S c=c:=by
 cases c <;> first |rfl | (simp [cB] at h)
def aF1:V→Bool
 | .agg cs=>cs.all cB
 |v=>cB v
theorem aJM {S:aD} :∀ {l:List V},l.all cB=true→l.map (rF S)=l
 | [],_=>rfl
 |c::r,h=>by
  simp only [List.all_cons,Bool.and_eq_true] at h
  rw [List.map_cons,aQ9 h.1,aJM h.2]
theorem aFP {S:aD} {c:V} (h:aF1 c=true):pur S c=c:=by
 by_cases ha:∃cs,c=.agg cs
 ·obtain⟨cs,rfl⟩:=ha
  show V.agg (cs.map (rF S))=_
  rw [aJM h]
 ·cases c <;> first |exact absurd ⟨_,rfl⟩ ha |rfl | (simp [aF1,cB] at h)
theorem aMA {S:aD} {c:V} (h:cB c=true):iG S c:=by
 cases c <;> first |exact trivial | (simp [cB] at h)
theorem aB6 {S:aD} {c:V} (h:aF1 c=true):mH S c:=by
 cases c with
 |agg cs=>intro x hx;exact aMA (List.all_eq_true.1 h x hx)
 |_=>first |exact trivial | (simp [aF1,cB] at h)
theorem aN8 {c:V} (h:cB c=true):aF1 c=true:=by
 cases c <;> first |rfl |exact h | (simp [cB] at h)
theorem aMP {S:aD} {g:FuncId} {caps:List V} {x res:V} {gc:Bool} {K:V→Prop} (hcap:caps.all cB=true)(hx:aF1 x=true)(hp:aN Tryz.prog g [] (x::caps) res [])(hs:aAL res=true)(h:K res):
 pJ Tryz.prog g (x::caps) S gc K:=by
 refine⟨res,fun _=>⟨fun v hv=>?_,?_⟩,.inr hs,h⟩
 ·rcases List.mem_cons.1 hv with rfl |hv
  ·exact aB6 hx
  ·exact aB6 (aN8 (List.all_eq_true.1 hcap v hv))
 ·have :(x::caps).map (pur S)=x::caps:=by
   rw [List.map_cons,aFP hx]
   congr 1
   rw [←List.map_id' caps,List.map_map]
   apply List.map_congr_left
   intro c hc
   exact aFP (aN8 (List.all_eq_true.1 hcap c hc))
  rw [this];exact hp
theorem bGX(l:List Int)(t:Bool)(g:FuncId)(caps:List V)(p:Int→Bool)(hg:fW Tryz.prog g)(hcap:caps.all cB=true)(hp:∀x∈l,aN Tryz.prog g [] (.int .i64 x::caps) (.bool (p x)) [])(hl:(l.length:Int)<2^62):
 aN Tryz.prog 358 [] [.lst 1 t (aE l),.fn g caps] (.int .i64 (dI p l)) []:=by
 refine aF (ob0:= []) [] Tryz.func358 rfl rfl rfl rfl ?_
 generalize hk:dI p l=q
 refine Wk ?_
 rw [aA]
 refine⟨Nat,fun i=>i≤l.length∧∀j (hj:j<i) (h:j<l.length),p l[j]=false,fun i=>⟨[(0,⟨[],true,.lst 1 t (aE l)⟩),(1,⟨[],true,.fn g caps⟩),(4,⟨[],true,.int .i64 0⟩),(7,⟨[],true,.int .i64 (l.length:Int)⟩),(8,⟨[],true,.int .i64 (i:Int)⟩)],[],0⟩,fun i=>l.length-i,⟨0,⟨by omega,fun j hj=>by omega⟩,?_⟩,fun i hI=>?_⟩
 ·refine bT [] rfl rfl ?_ rfl ?_ rfl ?_
  repeat' (first |exact trivial |rfl |exact .inl rfl |exact .inr rfl |exact id |exact(fun h=>Bool.noConfusion h)|refine And.intro ?_ ?_)
  exact jH hcap
 obtain⟨hI1,hI2⟩:=hI
 refine Wk ?_
 refine aC (fun h2=>?_) (fun h2=>?_)<;> try simp only [Bool.cond_true_left,Bool.cond_false_right,Bool.not_eq_true',Bool.not_eq_false',Bool.not_not,aA] at h2
 ·have h2:i<l.length:=by simp at h2;omega
  refine Wk ?_
  first |refine aB (⟨rfl,by omega,by rw [aA];omega⟩) ?_ |refine aH (fun _=>⟨rfl,by omega,by rw [aA];omega⟩) ?_ |refine⟨fun _=>⟨rfl,by omega,by rw [aA];omega⟩,?_⟩
  rw [Int.toNat_natCast,bJ l i h2]
  refine Wk ?_
  refine⟨hg,.inl (aMP hcap rfl (hp _ (List.getElem_mem h2)) rfl ?_)⟩
  refine Wk ?_
  refine aC (fun h3=>?_) (fun h3=>?_)<;> try simp only [Bool.cond_true_left,Bool.cond_false_right,Bool.not_eq_true',Bool.not_eq_false',Bool.not_not,aA] at h3
  ·have :q=i:=by rw [←hk];exact oX _ l i h2 (fun j hj=>hI2 j hj (by omega)) h3
   subst this
   refine Wk ?_
   try subst hk
   exact Lf
  refine Wk ?_
  rw [aO (n:=(i:Int)+1) (by omega) (by omega),show((i:Int)+1)=((i+1:Nat):Int) by omega]
  refine⟨i+1,⟨by omega,fun j hj h=>?_⟩,?_,by show l.length- (i+1)<l.length-i;omega⟩
  ·by_cases e:j=i
   ·subst e;exact h3
   ·exact hI2 j (by omega) h
  refine bT [] rfl rfl ?_ rfl ?_ rfl ?_
  repeat' (first |exact trivial |rfl |exact .inl rfl |exact .inr rfl |exact id |exact(fun h=>Bool.noConfusion h)|refine And.intro ?_ ?_)
  exact jH hcap
 have h2:i=l.length:=by simp at h2;omega
 have :q= -1:=by rw [←hk];exact jI _ l fun y hy=>by obtain⟨j,hj,rfl⟩:=List.getElem_of_mem hy;exact hI2 j (by omega) hj
 subst this
 refine Wk ?_
 try subst hk
 exact Lf
structure Zn where
 first :Int
 size:Int
 min:Int
 low:Int
 high:Int
 free:List Int
 ex:Bool
def Zn.c(z:Zn):List V:= [.int .i64 z.first,.int .i64 z.size,.int .i64 z.min,.int .i64 z.low,.int .i64 z.high,.lst 1 z.ex (aE z.free)]
def fQ:Zn:=⟨0,0,0,0,0,[],true⟩
def aP(L:List Zn):List (List V):=L.map Zn.c
theorem aG(L:List Zn):(aP L).length=L.length:=by simp [aP]
theorem dZ(L:List Zn)(i:Nat)(h:i<L.length):(aP L).getD i []=(L[i]'h).c:=by
 simp [aP,List.getD_eq_getElem?_getD,h]
theorem bGF(l:List Zn)(t:Bool)(g:FuncId)(caps:List V)(p:Zn→Bool)(hg:fW Tryz.prog g)(hcap:caps.all cB=true)(hp:∀x∈l,aN Tryz.prog g [] (.agg x.c::caps) (.bool (p x)) [])(hl:(l.length:Int)<2^62):
 aN Tryz.prog 305 [] [.lst 6 t (aP l),.fn g caps] (.int .i64 (dI p l)) []:=by
 refine aF (ob0:= []) [] Tryz.func305 rfl rfl rfl rfl ?_
 generalize hk:dI p l=q
 refine Wk ?_
 rw [aG]
 refine⟨Nat,fun i=>i≤l.length∧∀j (hj:j<i) (h:j<l.length),p l[j]=false,fun i=>⟨[(0,⟨[],true,.lst 6 t (aP l)⟩),(1,⟨[],true,.fn g caps⟩),(4,⟨[],true,.int .i64 0⟩),(7,⟨[],true,.int .i64 (l.length:Int)⟩),(8,⟨[],true,.int .i64 (i:Int)⟩)],[],0⟩,fun i=>l.length-i,⟨0,⟨by omega,fun j hj=>by omega⟩,?_⟩,fun i hI=>?_⟩
 ·refine bT [] rfl rfl ?_ rfl ?_ rfl ?_
  repeat' (first |exact trivial |rfl |exact .inl rfl |exact .inr rfl |exact id |exact(fun h=>Bool.noConfusion h)|refine And.intro ?_ ?_)
  exact jH hcap
 obtain⟨hI1,hI2⟩:=hI
 refine Wk ?_
 refine aC (fun h2=>?_) (fun h2=>?_)<;> try simp only [Bool.cond_true_left,Bool.cond_false_right,Bool.not_eq_true',Bool.not_eq_false',Bool.not_not,aA] at h2
 ·have h2:i<l.length:=by simp at h2;omega
  refine Wk ?_
  first |refine aB (⟨rfl,by omega,by rw [aG];omega⟩) ?_ |refine aH (fun _=>⟨rfl,by omega,by rw [aG];omega⟩) ?_ |refine⟨fun _=>⟨rfl,by omega,by rw [aG];omega⟩,?_⟩
  rw [Int.toNat_natCast,dZ l i h2]
  refine Wk ?_
  refine⟨hg,.inl (aMP hcap rfl (hp _ (List.getElem_mem h2)) rfl ?_)⟩
  refine Wk ?_
  refine aC (fun h3=>?_) (fun h3=>?_)<;> try simp only [Bool.cond_true_left,Bool.cond_false_right,Bool.not_eq_true',Bool.not_eq_false',Bool.not_not,aA] at h3
  ·have :q=i:=by rw [←hk];exact oX _ l i h2 (fun j hj=>hI2 j hj (by omega)) h3
   subst this
   refine Wk ?_
   try subst hk
   exact Lf
  refine Wk ?_
  rw [aO (n:=(i:Int)+1) (by omega) (by omega),show((i:Int)+1)=((i+1:Nat):Int) by omega]
  refine⟨i+1,⟨by omega,fun j hj h=>?_⟩,?_,by show l.length- (i+1)<l.length-i;omega⟩
  ·by_cases e:j=i
   ·subst e;exact h3
   ·exact hI2 j (by omega) h
  refine bT [] rfl rfl ?_ rfl ?_ rfl ?_
  repeat' (first |exact trivial |rfl |exact .inl rfl |exact .inr rfl |exact id |exact(fun h=>Bool.noConfusion h)|refine And.intro ?_ ?_)
  exact jH hcap
 have h2:i=l.length:=by simp at h2;omega
 have :q= -1:=by rw [←hk];exact jI _ l fun y hy=>by obtain⟨j,hj,rfl⟩:=List.getElem_of_mem hy;exact hI2 j (by omega) hj
 subst this
 refine Wk ?_
 try subst hk
 exact Lf
end Go.Proofs.YtmhapcbjjpadnaaGreat
set_option maxRecDepth 40000
namespace Go.Proofs.YtmhapcbjjpadnaaGreat
open Go Go.Sk Go.RowKit
def iT(z:Zn):Int:=IntKind.i64.wrap (z.first+z.size)
theorem aNX(z:Zn):aN Tryz.prog 292 [] [.agg z.c] (.int .i64 (iT z)) []:=by
 refine aF (ob0:= []) [] Tryz.func292 rfl rfl rfl rfl ?_
 refine Wk ?_
 try subst hk
 exact Lf
def iC(z:Zn)(f:Int):Bool:=((z.first != f||decide (z.size<1))||decide (64<z.size))||decide (65<iT z)
def iY(z:Zn):Bool:=((decide (z.min<0)||decide (z.low<z.min))||decide (z.high<z.low))||decide (z.size<z.high)
def jS(lo hi:Int)(l:List Int)(i:Nat):Bool:=(decide (l.getD i 0<lo)||decide (hi≤l.getD i 0))||(decide (0< (i:Int))&&decide (l.getD i 0≤l.getD (i-1) 0))
def sM(lo hi:Int)(l:List Int):Nat→Bool
 |0=>true
 |i+1=>sM lo hi l i&& !jS lo hi l i
theorem rR(lo hi:Int)(l:List Int):∀(n i:Nat),i<n→sM lo hi l n=true→jS lo hi l i=false
 |0,_,h,_=>by omega
 |n+1,i,h,h1=>by
  simp only [sM,Bool.and_eq_true,Bool.not_eq_true'] at h1
  by_cases e:i=n
  ·subst e;exact h1.2
  ·exact rR lo hi l n i (by omega) h1.1
theorem aIE(lo hi:Int)(l:List Int)(n i:Nat)(h:i<n)(hb:jS lo hi l i=true):sM lo hi l n=false:=by
 cases ha:sM lo hi l n with
 |false=>rfl
 |true=>rw [rR lo hi l n i h ha] at hb;cases hb
def iH(z:Zn)(f:Int):Bool:=bif iC z f then false else bif iY z then false else sM z.first (iT z) z.free z.free.length
theorem eY(l:List Int)(i:Nat)(h:i<l.length):l[i]=l.getD i 0:=by simp [List.getD_eq_getElem?_getD,h]
theorem uV(i:Nat)(hi:(i:Int)<2^62):(IntKind.i64.wrap ((i:Int)-1)).toNat=i-1:=by rw [aO (by omega) (by omega)];omega
theorem oE(i:Nat)(hi:(i:Int)<2^62):IntKind.i64.wrap ((i:Int)-1)=(i:Int)-1:=aO (by omega) (by omega)
set_option maxRecDepth 20000 in
theorem bGB(z:Zn)(f:Int)(hl:(z.free.length:Int)<2^62):aN Tryz.prog 291 [] [.agg z.c,.int .i64 f] (.bool (iH z f)) []:=by
 refine aF (ob0:= []) [] Tryz.func291 rfl rfl rfl rfl ?_
 generalize hk:iH z f=q
 refine cC (aNX z) ?_
 refine aC (fun h1=>?_) (fun h1=>?_)<;> try simp only [Bool.cond_true_left,Bool.cond_false_right,Bool.not_eq_true',Bool.not_eq_false',Bool.not_not] at h1
 ·have h1:iC z f=true:=h1
  simp only [iH,h1,cond_true] at hk
  subst hk
  refine Wk ?_
  try subst hk
  exact Lf
 have h1:iC z f=false:=h1
 simp only [iH,h1,cond_false] at hk
 refine Wk ?_
 refine aC (fun h2=>?_) (fun h2=>?_)<;> try simp only [Bool.cond_true_left,Bool.cond_false_right,Bool.not_eq_true',Bool.not_eq_false',Bool.not_not] at h2
 ·have h2:iY z=true:=h2
  simp only [h2,cond_true] at hk
  subst hk
  refine Wk ?_
  try subst hk
  exact Lf
 have h2:iY z=false:=h2
 simp only [h2,cond_false] at hk
 refine Wk ?_
 rw [aA]
 refine⟨Nat,fun i=>i≤z.free.length∧sM z.first (iT z) z.free i=true,fun i=>⟨[(1,⟨[],true,.int .i64 f⟩),(2,⟨[],true,.ptr 0 0 0⟩),(4,⟨[],true,.bool false⟩),(51,⟨[],true,.lst 1 z.ex (aE z.free)⟩),(52,⟨[],true,.int .i64 (z.free.length:Int)⟩),(53,⟨[],true,.int .i64 (i:Int)⟩)],[(0,.box z.c)],1⟩,fun i=>z.free.length-i,⟨0,⟨by omega,rfl⟩,?_⟩,fun i hI=>?_⟩
 ·exact Vw [some 0]
 obtain⟨hI1,hI2⟩:=hI
 refine Wk ?_
 refine aC (fun h3=>?_) (fun h3=>?_)<;> try simp only [Bool.cond_true_left,Bool.cond_false_right,Bool.not_eq_true',Bool.not_eq_false',Bool.not_not] at h3
 ·have h3:i<z.free.length:=by simp at h3;omega
  refine Wk ?_
  first |refine aB (⟨rfl,by omega,by rw [aA];omega⟩) ?_ |refine aH (fun _=>⟨rfl,by omega,by rw [aA];omega⟩) ?_ |refine⟨fun _=>⟨rfl,by omega,by rw [aA];omega⟩,?_⟩
  rw [Int.toNat_natCast,bJ z.free i h3]
  refine cC (aNX z) ?_
  rw [uV i (by omega)]
  first |refine aH (fun hg=>⟨rfl,?_,?_⟩) ?_ |refine⟨fun hg=>⟨rfl,?_,?_⟩,?_⟩
  ·simp only [Bool.and_eq_true,decide_eq_true_eq] at hg
   rw [oE i (by omega)];omega
  ·rw [oE i (by omega),aA];omega
  rw [bJ z.free (i-1) (by omega)]
  refine Wk ?_
  rw [eY,eY]
  refine aC (fun h4=>?_) (fun h4=>?_)<;> try simp only [Bool.cond_true_left,Bool.cond_false_right,Bool.not_eq_true',Bool.not_eq_false',Bool.not_not] at h4
  ·have h4:jS z.first (iT z) z.free i=true:=h4
   rw [aIE _ _ _ _ i h3 h4] at hk
   subst hk
   refine Wk ?_
   try subst hk
   exact Lf
  have h4:jS z.first (iT z) z.free i=false:=h4
  refine Wk ?_
  rw [aO (n:=(i:Int)+1) (by omega) (by omega),show((i:Int)+1)=((i+1:Nat):Int) by omega]
  refine⟨i+1,⟨by omega,by simp only [sM,hI2,h4];rfl⟩,?_,by show z.free.length- (i+1)<z.free.length-i;omega⟩
  exact Vw [some 0]
 have h3:i=z.free.length:=by simp at h3;omega
 rw [←h3,hI2] at hk
 subst hk
 refine Wk ?_
 try subst hk
 exact Lf
end Go.Proofs.YtmhapcbjjpadnaaGreat
