/- Caches. -/
import Derived.Test.YtmhapcbjjpadnaaGreatProg
import Derived.Test.YtmhapcbjjpadnaaGreatK8m
import Derived.KernelRfl
set_option linter.unusedSimpArgs false
set_option linter.unusedVariables false
open Array renaming getElem?_eq_getElem→zO
open Bool renaming cond_false_right→zC,cond_true_left→zD,not_eq_true'→zE,not_eq_false'→zF,not_not→zI,and_eq_true→zL
open Int renaming toNat_natCast→zK
open List renaming replicate_zero→zA,length_nil→zG,getD_eq_getElem?_getD→zJ,getElem_of_mem→zM,exists_cons_of_ne_nil→zN,getElem_mem→zP
open Nat renaming zero_add→zH
set_option linter.constructorNameAsVariable false
set_option maxRecDepth 40000
namespace Go.Proofs.YtmhapcbjjpadnaaGreat
open Go Go.Sk Go.RowKit
instance:Go.Sk.fQ:=⟨fun _=>none,[147,156]⟩
def aKZ(x n:Int):Int:=IntKind.i64.wrap ((IntKind.u64.wrap x).tmod (IntKind.u64.wrap n))
theorem bJ0(x n:Int)(hn:IntKind.u64.wrap n≠0):aQ Tryz.prog 14 [] [.int .i64 x,.int .i64 n] (.int .i64 (aKZ x n)) []:=by
 refine aF (ob0:= []) [] Tryz.func14 rfl rfl rfl rfl ?_
 refine Wk ?_
 first |refine aE (hn) ?_ |refine aM (fun _=>hn) ?_ |refine⟨fun _=>hn,?_⟩
 refine Wk ?_
 try subst hk
 exact Lf
def aJ(L:List Int):List (List V):=L.map fun x=> [.int .i64 x]
def aOL(L:List Int)(I:Int):Sk.Obj:=.box [.lst 1 false (aJ L),.int .i64 I]
theorem aB(L:List Int):(aJ L).length=L.length:=by simp [aJ]
theorem dJ(L:List Int)(i:Nat)(h:i<L.length):(aJ L).getD i []=[.int .i64 (L[i]'h)]:=by
 simp [aJ,zJ,h]
theorem vR:∀(M:List (List Int×V)) (j:List Int) (v:V) (x:List Int) (z:V),dZ (fW M j v) x z=if x=j then v else dZ M x z
 | [],j,v,x,z=>by
   simp only [fW,dZ]
   by_cases h:x=j
   ·simp [h]
   ·rw [if_neg h,if_neg (fun e=>h e.symm)]
 | (k,u)::r,j,v,x,z=>by
   simp only [fW]
   by_cases hk:k=j
   ·subst hk
    simp only [if_true,dZ]
    by_cases hx:k=x
    ·subst hx;simp
    ·simp [hx,Ne.symm hx]
   ·simp only [if_neg hk,dZ,vR r j v x z]
    by_cases hx:k=x
    ·subst hx;simp [hk]
    ·simp [hx]
theorem eF {xs:List (List V)} {n:Nat} (h:xs.length=n):(xs.drop 0).take n=xs:=by subst h;simp
theorem bJ1(L:List Int)(I n:Int)(hn:IntKind.u64.wrap n≠0)(hI:0≤I)(hlt:I< (L.length:Int))(hL:(L.length:Int)<2^62):
 aQ Tryz.prog 15 [aOL L I] [.ptr 0 0 0,.int .i64 n] (.int .i64 (aKZ (L.getD I.toNat 0) n)) [aOL L (I+1)]:=by
 have hlen:(aJ L).length=L.length:=by simp [aJ]
 refine aF (ob0:= [aOL L I]) [] Tryz.func15 rfl rfl rfl rfl ?_
 refine Wk ?_
 refine aI (fun h=>?_) (fun _=>?_)
 ·rw [hlen] at h;exact absurd (of_decide_eq_true h) (by omega)
 refine Wk ?_
 have hw1:IntKind.i64.wrap (I+1)=I+1:=by rw [IntKind.wrap_i64];omega
 have hw2:IntKind.i64.wrap (I+1-1)=I:=by rw [IntKind.wrap_i64];omega
 rw [hw1,hw2]
 first |refine aE (⟨rfl,hI,by rw [hlen];exact hlt⟩) ?_ |refine aM (fun _=>⟨rfl,hI,by rw [hlen];exact hlt⟩) ?_ |refine⟨fun _=>⟨rfl,hI,by rw [hlen];exact hlt⟩,?_⟩
 have hget:(aJ L).getD I.toNat []=[.int .i64 (L.getD I.toNat 0)]:=by
  have :I.toNat<L.length:=by omega
  simp [aJ,zJ,this]
 rw [hget]
 refine dF (bJ0 _ _ hn) ?_
 try subst hk
 exact⟨[some 0],Cl,rfl,Cl,rfl,Cl⟩
def nxV(L:List Int)(I:Nat)(n:Int):Int:=bif decide (L.length≤I) then 0 else aKZ (L.getD I 0) n
def nxI(L:List Int)(I:Nat):Nat:=bif decide (L.length≤I) then I else I+1
def tpO(L:List Int)(I:Nat):Sk.Obj:=aOL L (I:Int)
theorem aUS {n:Int} (h0:0<n)(h1:n<4611686018427387904):IntKind.u64.wrap n=n:=by rw [IntKind.wrap_u64];omega
theorem aWB(x n:Int)(h0:0<n)(h1:n<4611686018427387904):0≤aKZ x n∧aKZ x n<n:=by
 unfold aKZ
 rw [aUS h0 h1]
 have hx:0≤IntKind.u64.wrap x:=by rw [IntKind.wrap_u64];omega
 have a1:=Int.tmod_nonneg n hx
 have a2:=Int.tmod_lt_of_pos (IntKind.u64.wrap x) h0
 rw [aY (by omega) (by omega)]
 exact⟨a1,a2⟩
theorem aT0(L:List Int)(I:Nat)(n:Int)(h0:0<n)(h1:n<4611686018427387904):0≤nxV L I n∧nxV L I n<n:=by
 unfold nxV
 cases decide (L.length≤I) with
 |true=>exact⟨by simp,by simpa using h0⟩
 |false=>exact aWB _ n h0 h1
theorem aSZ(L:List Int)(I:Nat)(h:I≤L.length):nxI L I≤L.length:=by
 unfold nxI
 by_cases h':L.length≤I
 ·simp [h'];exact h
 ·simp [h'];omega
set_option maxRecDepth 20000 in
theorem aZL(L:List Int)(I:Nat)(n:Int)(hL:(L.length:Int)<2^62)(hI:I≤L.length)(h0:0<n)(h1:n<4611686018427387904):
 aQ Tryz.prog 15 [tpO L I] [.ptr 0 0 0,.int .i64 n] (.int .i64 (nxV L I n)) [tpO L (nxI L I)]:=by
 have hn:IntKind.u64.wrap n≠0:=by rw [aUS h0 h1];omega
 by_cases hlt:I<L.length
 ·have e1:nxV L I n=aKZ (L.getD I 0) n:=by simp [nxV,show ¬L.length≤I by omega]
  have e2:nxI L I=I+1:=by simp [nxI,show ¬L.length≤I by omega]
  have :=bJ1 L I n hn (by omega) (by omega) (by omega)
  rw [e1,e2]
  simpa [tpO] using this
 ·have e1:nxV L I n=0:=by simp [nxV,show L.length≤I by omega]
  have e2:nxI L I=I:=by simp [nxI,show L.length≤I by omega]
  rw [e1,e2]
  refine aF (ob0:= [tpO L I]) [] Tryz.func15 rfl rfl rfl rfl ?_
  refine Wk ?_
  rw [aB]
  refine aI (fun h=>?_) (fun h=>?_)
  ·refine Wk ?_
   refine⟨[some 0],?_,rfl,?_,rfl,?_⟩
   ·exact⟨⟨⟨.inl rfl,fun h=>h,rfl⟩,⟨rfl,rfl⟩,trivial⟩,trivial⟩
   ·exact⟨rfl,trivial⟩
   ·conv=>whnf
    exact⟨rfl,rfl⟩
  ·simp at h;omega
end Go.Proofs.YtmhapcbjjpadnaaGreat
set_option maxRecDepth 40000
namespace Go.Proofs.YtmhapcbjjpadnaaGreat
open Go Go.Sk Go.RowKit
def dW {α:Type} (p:α→Bool):List α→Int
 | []=> -1
 |x::r=>bif p x then 0 else bif decide (dW p r<0) then -1 else dW p r+1
theorem aGD {α:Type} (p:α→Bool):∀l:List α,-1≤dW p l∧dW p l<l.length
 | []=>by simp [dW]
 |x::r=>by
  have :=aGD p r
  simp only [dW,List.length_cons]
  cases p x <;> simp only [cond_true,cond_false]
  ·by_cases h:dW p r<0 <;> simp [h] <;> omega
  ·omega
theorem uE {α:Type} (p:α→Bool):∀(l:List α) (i:Nat) (h:i<l.length),(∀j (hj:j<i),p (l[j]'(by omega))=false)→p l[i]=true→dW p l=i
 | [],i,h,_,_=>by simp at h
 |x::r,0,_,_,h2=>by simp only [List.getElem_cons_zero] at h2;simp [dW,h2]
 |x::r,i+1,h,h1,h2=>by
  have hx:p x=false:=by simpa using h1 0 (by omega)
  have ih:=uE p r i (by simpa using h) (fun j hj=>by simpa using h1 (j+1) (by omega)) (by simpa using h2)
  simp only [dW,hx,cond_false,ih,show ¬(i:Int)<0 by omega,decide_false]
  omega
theorem nL {α:Type} (p:α→Bool):∀(l:List α),(∀x∈l,p x=false)→dW p l= -1
 | [],_=>rfl
 |x::r,h=>by
  have hx:p x=false:=h x (by simp)
  have ih:=nL p r (fun y hy=>h y (by simp [hy]))
  simp [dW,hx,ih]
theorem qM {α:Type} (p:α→Bool):∀(l:List α),dW p l<0↔∀x∈l,p x=false
 | []=>by simp [dW]
 |x::r=>by
  have ih:=qM p r
  simp only [dW,List.mem_cons,forall_eq_or_imp]
  cases hx:p x <;> simp only [cond_true,cond_false]
  ·by_cases h:dW p r<0
   ·simp only [h,decide_true,cond_true];exact⟨fun _=>⟨trivial,ih.1 h⟩,fun _=>by omega⟩
   ·simp only [h,decide_false,cond_false];exact⟨fun h'=>absurd h' (by omega),fun h'=>absurd (ih.2 h'.2) h⟩
  ·exact⟨fun h=>absurd h (by omega),fun h=>by cases h.1⟩
theorem nM {α:Type} (p:α→Bool)(l:List α)(h:0≤dW p l):∃(i:Nat) (hi:i<l.length),dW p l=i∧p l[i]=true∧∀j (hj:j<i),p (l[j]'(by omega))=false:=by
 induction l with
 |nil=>simp [dW] at h
 |cons x r ih=>
  cases hx:p x with
  |true=>exact⟨0,by simp,by simp [dW,hx],hx,fun j hj=>by omega⟩
  |false=>
   have hr:0≤dW p r:=by
    apply Classical.byContradiction;intro hn
    simp [dW,hx,show dW p r<0 by omega] at h
   obtain⟨i,hi,e,h1,h2⟩:=ih hr
   refine⟨i+1,by simpa using hi,?_,by simpa using h1,fun j hj=>?_⟩
   ·simp only [dW,hx,cond_false,e,show ¬(i:Int)<0 by omega,decide_false];omega
   ·cases j with
    |zero=>exact hx
    |succ j=>simpa using h2 j (by omega)
theorem aQ.lst_cases {f:FuncId} {ob0 ob1:List Sk.Obj} {es:Nat} {t:Bool} {xs:List (List V)} {args:List V} {res:V} (h1:xs≠ []→aQ Tryz.prog f ob0 (.lst es t xs::args) res ob1)
 (h2:xs=[]→∀(a:Option Addr) (cap:Nat),aQ Tryz.prog f ob0 (.val (.slice a 0 cap)::args) res ob1):aQ Tryz.prog f ob0 (.lst es t xs::args) res ob1:=by
 by_cases h:xs=[]
 ·subst h
  intro U σ w cargs hR hl ha
  have hlt:0<cargs.size:=by rw [hl];simp
  have h0:=ha 0 _ _ rfl (zO hlt)
  generalize hv:cargs[0]=v at h0
  have hv':cargs[0]? =some v:=by rw [zO hlt,hv]
  cases h0 with
  | @lst _ _ _ _ a cap b o cv q1 q2 q3 q4 q5 q6 q7=>
    refine h2 rfl a cap U σ w cargs hR (by simpa using hl) fun i x c hx hc=>?_
    cases i with
    |zero=>
     simp only [List.getElem?_cons_zero,Option.some.injEq] at hx
     subst hx
     rw [hv'] at hc
     obtain rfl:=Option.some.inj hc
     exact .val _
    |succ i=>exact ha (i+1) x c (by simpa using hx) hc
 ·exact h1 h
theorem bFZ(l:List Int)(t:Bool)(x:Int)(hl:(l.length:Int)<2^62):aQ Tryz.prog 306 [] [.lst 1 t (aJ l),.int .i64 x] (.int .i64 (dW (fun y=>x==y) l)) []:=by
 refine aF (ob0:= []) [] Tryz.func306 rfl rfl rfl rfl ?_
 generalize hk:dW (fun y=>x==y) l=q
 refine Wk ?_
 rw [aB]
 refine⟨Nat,fun i=>i≤l.length∧∀j (hj:j<i) (h:j<l.length),(x==l[j])=false,fun i=>⟨[(0,⟨[],true,.lst 1 t (aJ l)⟩),(1,⟨[],true,.int .i64 x⟩),(4,⟨[],true,.int .i64 0⟩),(7,⟨[],true,.int .i64 (l.length:Int)⟩),(8,⟨[],true,.int .i64 (i:Int)⟩)],[],0⟩,fun i=>l.length-i,⟨0,⟨by omega,fun j hj=>by omega⟩,?_⟩,fun i hI=>?_⟩
 ·exact Vw []
 obtain⟨hI1,hI2⟩:=hI
 refine Wk ?_
 refine aI (fun h2=>?_) (fun h2=>?_)<;> try simp only [zD,zC,zE,zF,zI,aB] at h2
 ·have h2:i<l.length:=by simp at h2;omega
  refine Wk ?_
  first |refine aE (⟨rfl,by omega,by rw [aB];omega⟩) ?_ |refine aM (fun _=>⟨rfl,by omega,by rw [aB];omega⟩) ?_ |refine⟨fun _=>⟨rfl,by omega,by rw [aB];omega⟩,?_⟩
  rw [zK,dJ l i h2]
  refine Wk ?_
  refine aI (fun h3=>?_) (fun h3=>?_)<;> try simp only [zD,zC,zE,zF,zI,aB] at h3
  ·have :q=i:=by rw [←hk];exact uE _ l i h2 (fun j hj=>hI2 j hj (by omega)) h3
   subst this
   refine Wk ?_
   try subst hk
   exact Lf
  refine Wk ?_
  rw [aY (n:=(i:Int)+1) (by omega) (by omega),show((i:Int)+1)=((i+1:Nat):Int) by omega]
  refine⟨i+1,⟨by omega,fun j hj h=>?_⟩,?_,by show l.length- (i+1)<l.length-i;omega⟩
  ·by_cases e:j=i
   ·subst e;exact h3
   ·exact hI2 j (by omega) h
  exact Vw []
 have h2:i=l.length:=by simp at h2;omega
 have :q= -1:=by rw [←hk];exact nL _ l fun y hy=>by obtain⟨j,hj,rfl⟩:=zM hy;exact hI2 j (by omega) hj
 subst this
 refine Wk ?_
 try subst hk
 exact Lf
theorem bIO(l:List Int)(x:Int):decide (0≤dW (fun y=>x==y) l)=decide (x∈l):=by
 rw [Bool.eq_iff_iff,decide_eq_true_eq,decide_eq_true_eq]
 have h:=qM (fun y=>x==y) l
 constructor
 ·intro h0
  obtain⟨i,hi,-,h1,-⟩:=nM _ l h0
  have :x=l[i]:=by simpa using h1
  rw [this];exact zP hi
 ·intro hm
  apply Classical.byContradiction;intro hn
  have :=h.1 (by omega) x hm
  simp at this
theorem aTG(l:List Int)(t:Bool)(x:Int)(hl:(l.length:Int)<2^62):aQ Tryz.prog 228 [] [.lst 1 t (aJ l),.int .i64 x] (.bool (decide (x∈l))) []:=by
 rw [←bIO]
 refine aF (ob0:= []) [] Tryz.func228 rfl rfl rfl rfl ?_
 refine dF (bFZ l t x hl) ?_
 try subst hk
 exact Lf
theorem sM(rows:List (List V))(t:Bool)(hl:rows.length*8≤140737488355328):aQ Tryz.prog 107 [] [.lst 1 t rows] (.sl 0 0 rows.length) [.row 1 rows]:=by
 refine aQ.lst_cases (fun hne=>?_) (fun he a cap=>?_)
 ·obtain⟨r,rs,rfl⟩:=zN hne
  refine aF (ob0:= []) [] Tryz.func107 rfl rfl rfl rfl ?_
  refine Wk ?_
  first |refine bZ (by simp only [zA,zG,zH];omega) (by simp only [zA,zG,zH];exact hl) ?_ |refine aE ⟨by simp only [zA,zG,zH];omega,by simp only [zA,zG,zH];exact hl⟩ ?_ |refine⟨by simp only [zA,zG,zH];omega,by simp only [zA,zG,zH];exact hl,?_⟩
  refine Wk ?_
  try subst hk
  refine⟨[some 1],?_,rfl,?_,rfl,?_⟩
  all_goals repeat' (first |exact trivial |rfl |exact .inl rfl |exact .inr rfl |exact id |exact(fun h=>Bool.noConfusion h)|refine And.intro ?_ ?_)
  simp
 ·subst he
  cases a with
  |none=>
   refine aF (ob0:= []) [] Tryz.func107 rfl rfl rfl rfl ?_
   refine Wk ?_
   try subst hk
   exact⟨[none],Cl,rfl,Cl,rfl,Cl⟩
  |some ad=>
   refine aF (ob0:= []) [] Tryz.func107 rfl rfl rfl rfl ?_
   refine Wk ?_
   try subst hk
   exact⟨[some 1],Cl,rfl,Cl,rfl,Cl⟩
theorem aTC(rows:List (List V))(t:Bool)(hl:rows.length*64≤140737488355328):aQ Tryz.prog 187 [] [.lst 6 t rows] (.sl 0 0 rows.length) [.row 6 rows]:=by
 refine aQ.lst_cases (fun hne=>?_) (fun he a cap=>?_)
 ·obtain⟨r,rs,rfl⟩:=zN hne
  refine aF (ob0:= []) [] Tryz.func187 rfl rfl rfl rfl ?_
  refine Wk ?_
  first |refine bZ (by simp only [zA,zG,zH];omega) (by simp only [zA,zG,zH];exact hl) ?_ |refine aE ⟨by simp only [zA,zG,zH];omega,by simp only [zA,zG,zH];exact hl⟩ ?_ |refine⟨by simp only [zA,zG,zH];omega,by simp only [zA,zG,zH];exact hl,?_⟩
  refine Wk ?_
  try subst hk
  refine⟨[some 1],?_,rfl,?_,rfl,?_⟩
  all_goals repeat' (first |exact trivial |rfl |exact .inl rfl |exact .inr rfl |exact id |exact(fun h=>Bool.noConfusion h)|refine And.intro ?_ ?_)
  simp
 ·subst he
  cases a with
  |none=>
   refine aF (ob0:= []) [] Tryz.func187 rfl rfl rfl rfl ?_
   refine Wk ?_
   try subst hk
   exact⟨[none],Cl,rfl,Cl,rfl,Cl⟩
  |some ad=>
   refine aF (ob0:= []) [] Tryz.func187 rfl rfl rfl rfl ?_
   refine Wk ?_
   try subst hk
   exact⟨[some 1],Cl,rfl,Cl,rfl,Cl⟩
theorem aUX {S:aC} {ids:List (Option Nat)} {c:V} (h:bW c=true):vw1 S ids c c:=by
 cases c <;> first |exact⟨rfl,rfl⟩|rfl |exact⟨.inl rfl,id,rfl⟩| (simp [bW] at h)
theorem jE {S:aC} {ids:List (Option Nat)} :∀ {l:List V},l.all bW=true→aHK (vw1 S ids) l l
 | [],_=>trivial
 |c::r,h=>by
  simp only [List.all_cons,zL] at h
  exact⟨aUX h.1,jE h.2⟩
theorem aQ1 {S:aC} {c:V} (h:bW c=true):qW S c=c:=by
 cases c <;> first |rfl | (simp [bW] at h)
def aEP:V→Bool
 | .agg cs=>cs.all bW
 |v=>bW v
theorem aIS {S:aC} :∀ {l:List V},l.all bW=true→l.map (qW S)=l
 | [],_=>rfl
 |c::r,h=>by
  simp only [List.all_cons,zL] at h
  rw [List.map_cons,aQ1 h.1,aIS h.2]
theorem aFB {S:aC} {c:V} (h:aEP c=true):pur S c=c:=by
 by_cases ha:∃cs,c=.agg cs
 ·obtain⟨cs,rfl⟩:=ha
  show V.agg (cs.map (qW S))=_
  rw [aIS h]
 ·cases c <;> first |exact absurd ⟨_,rfl⟩ ha |rfl | (simp [aEP,bW] at h)
theorem aLO {S:aC} {c:V} (h:bW c=true):gZ S c:=by
 cases c <;> first |exact trivial | (simp [bW] at h)
theorem aAS {S:aC} {c:V} (h:aEP c=true):mI S c:=by
 cases c with
 |agg cs=>intro x hx;exact aLO (List.all_eq_true.1 h x hx)
 |_=>first |exact trivial | (simp [aEP,bW] at h)
theorem aMY {c:V} (h:bW c=true):aEP c=true:=by
 cases c <;> first |rfl |exact h | (simp [bW] at h)
theorem aM9 {S:aC} {g:FuncId} {caps:List V} {x res:V} {gc:Bool} {K:V→Prop} (hcap:caps.all bW=true)(hx:aEP x=true)(hp:aQ Tryz.prog g [] (x::caps) res [])(hs:aA8 res=true)(h:K res):
 pE Tryz.prog g (x::caps) S gc K:=by
 refine⟨res,fun _=>⟨fun v hv=>?_,?_⟩,.inr hs,h⟩
 ·rcases List.mem_cons.1 hv with rfl |hv
  ·exact aAS hx
  ·exact aAS (aMY (List.all_eq_true.1 hcap v hv))
 ·have :(x::caps).map (pur S)=x::caps:=by
   rw [List.map_cons,aFB hx]
   congr 1
   rw [←List.map_id' caps,List.map_map]
   apply List.map_congr_left
   intro c hc
   exact aFB (aMY (List.all_eq_true.1 hcap c hc))
  rw [this];exact hp
theorem bGG(l:List Int)(t:Bool)(g:FuncId)(caps:List V)(p:Int→Bool)(hg:eP Tryz.prog g)(hcap:caps.all bW=true)(hp:∀x∈l,aQ Tryz.prog g [] (.int .i64 x::caps) (.bool (p x)) [])(hl:(l.length:Int)<2^62):
 aQ Tryz.prog 358 [] [.lst 1 t (aJ l),.fn g caps] (.int .i64 (dW p l)) []:=by
 refine aF (ob0:= []) [] Tryz.func358 rfl rfl rfl rfl ?_
 generalize hk:dW p l=q
 refine Wk ?_
 rw [aB]
 refine⟨Nat,fun i=>i≤l.length∧∀j (hj:j<i) (h:j<l.length),p l[j]=false,fun i=>⟨[(0,⟨[],true,.lst 1 t (aJ l)⟩),(1,⟨[],true,.fn g caps⟩),(4,⟨[],true,.int .i64 0⟩),(7,⟨[],true,.int .i64 (l.length:Int)⟩),(8,⟨[],true,.int .i64 (i:Int)⟩)],[],0⟩,fun i=>l.length-i,⟨0,⟨by omega,fun j hj=>by omega⟩,?_⟩,fun i hI=>?_⟩
 ·refine cO [] rfl rfl ?_ rfl ?_ rfl ?_
  repeat' (first |exact trivial |rfl |exact .inl rfl |exact .inr rfl |exact id |exact(fun h=>Bool.noConfusion h)|refine And.intro ?_ ?_)
  exact jE hcap
 obtain⟨hI1,hI2⟩:=hI
 refine Wk ?_
 refine aI (fun h2=>?_) (fun h2=>?_)<;> try simp only [zD,zC,zE,zF,zI,aB] at h2
 ·have h2:i<l.length:=by simp at h2;omega
  refine Wk ?_
  first |refine aE (⟨rfl,by omega,by rw [aB];omega⟩) ?_ |refine aM (fun _=>⟨rfl,by omega,by rw [aB];omega⟩) ?_ |refine⟨fun _=>⟨rfl,by omega,by rw [aB];omega⟩,?_⟩
  rw [zK,dJ l i h2]
  refine Wk ?_
  refine⟨hg,.inl (aM9 hcap rfl (hp _ (zP h2)) rfl ?_)⟩
  refine Wk ?_
  refine aI (fun h3=>?_) (fun h3=>?_)<;> try simp only [zD,zC,zE,zF,zI,aB] at h3
  ·have :q=i:=by rw [←hk];exact uE _ l i h2 (fun j hj=>hI2 j hj (by omega)) h3
   subst this
   refine Wk ?_
   try subst hk
   exact Lf
  refine Wk ?_
  rw [aY (n:=(i:Int)+1) (by omega) (by omega),show((i:Int)+1)=((i+1:Nat):Int) by omega]
  refine⟨i+1,⟨by omega,fun j hj h=>?_⟩,?_,by show l.length- (i+1)<l.length-i;omega⟩
  ·by_cases e:j=i
   ·subst e;exact h3
   ·exact hI2 j (by omega) h
  refine cO [] rfl rfl ?_ rfl ?_ rfl ?_
  repeat' (first |exact trivial |rfl |exact .inl rfl |exact .inr rfl |exact id |exact(fun h=>Bool.noConfusion h)|refine And.intro ?_ ?_)
  exact jE hcap
 have h2:i=l.length:=by simp at h2;omega
 have :q= -1:=by rw [←hk];exact nL _ l fun y hy=>by obtain⟨j,hj,rfl⟩:=zM hy;exact hI2 j (by omega) hj
 subst this
 refine Wk ?_
 try subst hk
 exact Lf
structure Zn where
 first :Int
 size:Int
 min:Int
 low:Int
 high:Int
 free:List Int
 ex:Bool
def Zn.c(z:Zn):List V:= [.int .i64 z.first,.int .i64 z.size,.int .i64 z.min,.int .i64 z.low,.int .i64 z.high,.lst 1 z.ex (aJ z.free)]
def fL:Zn:=⟨0,0,0,0,0,[],true⟩
def aW(L:List Zn):List (List V):=L.map Zn.c
theorem aG(L:List Zn):(aW L).length=L.length:=by simp [aW]
theorem iG(L:List Zn)(i:Nat)(h:i<L.length):(aW L).getD i []=(L[i]'h).c:=by
 simp [aW,zJ,h]
theorem bFY(l:List Zn)(t:Bool)(g:FuncId)(caps:List V)(p:Zn→Bool)(hg:eP Tryz.prog g)(hcap:caps.all bW=true)(hp:∀x∈l,aQ Tryz.prog g [] (.agg x.c::caps) (.bool (p x)) [])(hl:(l.length:Int)<2^62):
 aQ Tryz.prog 305 [] [.lst 6 t (aW l),.fn g caps] (.int .i64 (dW p l)) []:=by
 refine aF (ob0:= []) [] Tryz.func305 rfl rfl rfl rfl ?_
 generalize hk:dW p l=q
 refine Wk ?_
 rw [aG]
 refine⟨Nat,fun i=>i≤l.length∧∀j (hj:j<i) (h:j<l.length),p l[j]=false,fun i=>⟨[(0,⟨[],true,.lst 6 t (aW l)⟩),(1,⟨[],true,.fn g caps⟩),(4,⟨[],true,.int .i64 0⟩),(7,⟨[],true,.int .i64 (l.length:Int)⟩),(8,⟨[],true,.int .i64 (i:Int)⟩)],[],0⟩,fun i=>l.length-i,⟨0,⟨by omega,fun j hj=>by omega⟩,?_⟩,fun i hI=>?_⟩
 ·refine cO [] rfl rfl ?_ rfl ?_ rfl ?_
  repeat' (first |exact trivial |rfl |exact .inl rfl |exact .inr rfl |exact id |exact(fun h=>Bool.noConfusion h)|refine And.intro ?_ ?_)
  exact jE hcap
 obtain⟨hI1,hI2⟩:=hI
 refine Wk ?_
 refine aI (fun h2=>?_) (fun h2=>?_)<;> try simp only [zD,zC,zE,zF,zI,aB] at h2
 ·have h2:i<l.length:=by simp at h2;omega
  refine Wk ?_
  first |refine aE (⟨rfl,by omega,by rw [aG];omega⟩) ?_ |refine aM (fun _=>⟨rfl,by omega,by rw [aG];omega⟩) ?_ |refine⟨fun _=>⟨rfl,by omega,by rw [aG];omega⟩,?_⟩
  rw [zK,iG l i h2]
  refine Wk ?_
  refine⟨hg,.inl (aM9 hcap rfl (hp _ (zP h2)) rfl ?_)⟩
  refine Wk ?_
  refine aI (fun h3=>?_) (fun h3=>?_)<;> try simp only [zD,zC,zE,zF,zI,aB] at h3
  ·have :q=i:=by rw [←hk];exact uE _ l i h2 (fun j hj=>hI2 j hj (by omega)) h3
   subst this
   refine Wk ?_
   try subst hk
   exact Lf
  refine Wk ?_
  rw [aY (n:=(i:Int)+1) (by omega) (by omega),show((i:Int)+1)=((i+1:Nat):Int) by omega]
  refine⟨i+1,⟨by omega,fun j hj h=>?_⟩,?_,by show l.length- (i+1)<l.length-i;omega⟩
  ·by_cases e:j=i
   ·subst e;exact h3
   ·exact hI2 j (by omega) h
  refine cO [] rfl rfl ?_ rfl ?_ rfl ?_
  repeat' (first |exact trivial |rfl |exact .inl rfl |exact .inr rfl |exact id |exact(fun h=>Bool.noConfusion h)|refine And.intro ?_ ?_)
  exact jE hcap
 have h2:i=l.length:=by simp at h2;omega
 have :q= -1:=by rw [←hk];exact nL _ l fun y hy=>by obtain⟨j,hj,rfl⟩:=zM hy;exact hI2 j (by omega) hj
 subst this
 refine Wk ?_
 try subst hk
 exact Lf
end Go.Proofs.YtmhapcbjjpadnaaGreat
set_option maxRecDepth 40000
namespace Go.Proofs.YtmhapcbjjpadnaaGreat
open Go Go.Sk Go.RowKit
def sV(z:Zn):Int:=IntKind.i64.wrap (z.first+z.size)
theorem aNU(z:Zn):aQ Tryz.prog 292 [] [.agg z.c] (.int .i64 (sV z)) []:=by
 refine aF (ob0:= []) [] Tryz.func292 rfl rfl rfl rfl ?_
 refine Wk ?_
 try subst hk
 exact Lf
def oT(z:Zn)(f:Int):Bool:=((z.first != f||decide (z.size<1))||decide (64<z.size))||decide (65<sV z)
def oV(z:Zn):Bool:=((decide (z.min<0)||decide (z.low<z.min))||decide (z.high<z.low))||decide (z.size<z.high)
def mC(lo hi:Int)(l:List Int)(i:Nat):Bool:=(decide (l.getD i 0<lo)||decide (hi≤l.getD i 0))||(decide (0< (i:Int))&&decide (l.getD i 0≤l.getD (i-1) 0))
def vG(lo hi:Int)(l:List Int):Nat→Bool
 |0=>true
 |i+1=>vG lo hi l i&& !mC lo hi l i
theorem rI(lo hi:Int)(l:List Int):∀(n i:Nat),i<n→vG lo hi l n=true→mC lo hi l i=false
 |0,_,h,_=>by omega
 |n+1,i,h,h1=>by
  simp only [vG,zL,zE] at h1
  by_cases e:i=n
  ·subst e;exact h1.2
  ·exact rI lo hi l n i (by omega) h1.1
theorem aRC(lo hi:Int)(l:List Int)(n i:Nat)(h:i<n)(hb:mC lo hi l i=true):vG lo hi l n=false:=by
 cases ha:vG lo hi l n with
 |false=>rfl
 |true=>rw [rI lo hi l n i h ha] at hb;cases hb
def lF(z:Zn)(f:Int):Bool:=bif oT z f then false else bif oV z then false else vG z.first (sV z) z.free z.free.length
theorem fV(l:List Int)(i:Nat)(h:i<l.length):l[i]=l.getD i 0:=by simp [zJ,h]
theorem aJ7(i:Nat)(hi:(i:Int)<2^62):(IntKind.i64.wrap ((i:Int)-1)).toNat=i-1:=by rw [aY (by omega) (by omega)];omega
theorem aDG(i:Nat)(hi:(i:Int)<2^62):IntKind.i64.wrap ((i:Int)-1)=(i:Int)-1:=aY (by omega) (by omega)
set_option maxRecDepth 20000 in
theorem bFT(z:Zn)(f:Int)(hl:(z.free.length:Int)<2^62):aQ Tryz.prog 291 [] [.agg z.c,.int .i64 f] (.bool (lF z f)) []:=by
 refine aF (ob0:= []) [] Tryz.func291 rfl rfl rfl rfl ?_
 generalize hk:lF z f=q
 refine dF (aNU z) ?_
 refine aI (fun h1=>?_) (fun h1=>?_)<;> try simp only [zD,zC,zE,zF,zI] at h1
 ·have h1:oT z f=true:=h1
  simp only [lF,h1,cond_true] at hk
  subst hk
  refine Wk ?_
  try subst hk
  exact Lf
 have h1:oT z f=false:=h1
 simp only [lF,h1,cond_false] at hk
 refine Wk ?_
 refine aI (fun h2=>?_) (fun h2=>?_)<;> try simp only [zD,zC,zE,zF,zI] at h2
 ·have h2:oV z=true:=h2
  simp only [h2,cond_true] at hk
  subst hk
  refine Wk ?_
  try subst hk
  exact Lf
 have h2:oV z=false:=h2
 simp only [h2,cond_false] at hk
 refine Wk ?_
 rw [aB]
 refine⟨Nat,fun i=>i≤z.free.length∧vG z.first (sV z) z.free i=true,fun i=>⟨[(1,⟨[],true,.int .i64 f⟩),(2,⟨[],true,.ptr 0 0 0⟩),(4,⟨[],true,.bool false⟩),(51,⟨[],true,.lst 1 z.ex (aJ z.free)⟩),(52,⟨[],true,.int .i64 (z.free.length:Int)⟩),(53,⟨[],true,.int .i64 (i:Int)⟩)],[(0,.box z.c)],1⟩,fun i=>z.free.length-i,⟨0,⟨by omega,rfl⟩,?_⟩,fun i hI=>?_⟩
 ·exact Vw [some 0]
 obtain⟨hI1,hI2⟩:=hI
 refine Wk ?_
 refine aI (fun h3=>?_) (fun h3=>?_)<;> try simp only [zD,zC,zE,zF,zI] at h3
 ·have h3:i<z.free.length:=by simp at h3;omega
  refine Wk ?_
  first |refine aE (⟨rfl,by omega,by rw [aB];omega⟩) ?_ |refine aM (fun _=>⟨rfl,by omega,by rw [aB];omega⟩) ?_ |refine⟨fun _=>⟨rfl,by omega,by rw [aB];omega⟩,?_⟩
  rw [zK,dJ z.free i h3]
  refine dF (aNU z) ?_
  rw [aJ7 i (by omega)]
  first |refine aM (fun hg=>⟨rfl,?_,?_⟩) ?_ |refine⟨fun hg=>⟨rfl,?_,?_⟩,?_⟩
  ·simp only [zL,decide_eq_true_eq] at hg
   rw [aDG i (by omega)];omega
  ·rw [aDG i (by omega),aB];omega
  rw [dJ z.free (i-1) (by omega)]
  refine Wk ?_
  rw [fV,fV]
  refine aI (fun h4=>?_) (fun h4=>?_)<;> try simp only [zD,zC,zE,zF,zI] at h4
  ·have h4:mC z.first (sV z) z.free i=true:=h4
   rw [aRC _ _ _ _ i h3 h4] at hk
   subst hk
   refine Wk ?_
   try subst hk
   exact Lf
  have h4:mC z.first (sV z) z.free i=false:=h4
  refine Wk ?_
  rw [aY (n:=(i:Int)+1) (by omega) (by omega),show((i:Int)+1)=((i+1:Nat):Int) by omega]
  refine⟨i+1,⟨by omega,by simp only [vG,hI2,h4];rfl⟩,?_,by show z.free.length- (i+1)<z.free.length-i;omega⟩
  exact Vw [some 0]
 have h3:i=z.free.length:=by simp at h3;omega
 rw [←h3,hI2] at hk
 subst hk
 refine Wk ?_
 try subst hk
 exact Lf
end Go.Proofs.YtmhapcbjjpadnaaGreat
