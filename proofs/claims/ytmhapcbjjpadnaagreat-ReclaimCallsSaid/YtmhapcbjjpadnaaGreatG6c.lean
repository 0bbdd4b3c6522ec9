/- Caches. -/
import Derived.Test.YtmhapcbjjpadnaaGreatG5c
import Derived.Test.YtmhapcbjjpadnaaGreatG4c
import Derived.Test.YtmhapcbjjpadnaaGreatG3c
set_option linter.all false
set_option maxHeartbeats 1000000
set_option maxRecDepth 40000
open Array renaming getElem?_modify→zS
open Bool renaming cond_false_right→zA,not_eq_false'→zC,cond_true_left→zD,not_eq_true'→zE,not_not→zF,or_eq_false_iff→zH,not_true→zK
open List renaming length_append→zG,take_succ_eq_append_getElem→zI,length_take→zJ,getElem_of_mem→zL,filter_sublist→zM,getElem_mem→zO,take_length→zP,getElem?_cons_zero→zQ,append_assoc→zT,getElem?_map→zU
open Nat renaming le_refl→zN,zero_mul→zV,zero_add→zW
open Option renaming map_eq_some_iff→zR
namespace Go.Proofs.YtmhapcbjjpadnaaGreat
open Go Go.Sk Go.RowKit
def mL(l:Ls)(f:Int):Bool:=decide (f∈l.A)||decide (f∈l.I)
theorem bA9(l:Ls)(f:Int)(e:dM l):aM Tryz.prog 240 [] [.agg l.c,.int .i64 f] (.bool (mL l f)) []:=by have j:=e.a;have h2:=e.i;refine cK Tryz.func240 ?_;refine Wk2 (aOV l.A false f (by omega)) (aOV l.I false f (by omega)) ?_;exact Lf
theorem bA3(l:Ls)(f:Int)(e:dM l):aM Tryz.prog 203 [] [.agg l.c,.int .i64 f] (.bool (mL l f)) []:=by have j:=e.a;have h2:=e.i;refine cK Tryz.func203 ?_;refine Wk2 (aBW l.A false f (by omega)) (aBW l.I false f (by omega)) ?_;rw [atM,atM];exact Lf
def mD(l:Ls)(f:Int):Int:=bif !dU l then 1 else bif !cI f then 2 else 0
theorem bA8(l:Ls)(f:Int)(z:dM l):aM Tryz.prog 239 [] [.agg l.c,.int .i64 f] (.int .i64 (mD l f)) []:=by
 refine cK Tryz.func239 ?_;generalize e:mD l f=q;rw [mD] at e;refine cO (aTL l z) ?_;refine aC (λj=>?_) (λj=>?_)<;> try simp only [zD,zA,zE,zC,zF] at j
 ·rw [show(!dU l)=true by rw [j];rfl] at e;have e:1=q:=e;subst e;refine Wk ?_
  try subst e
  exact Lf
 rw [show(!dU l)=false by rw [j];rfl,zcf] at e;refine cO (bHL f) ?_;refine aC (λm=>?_) (λm=>?_)<;> try simp only [zD,zA,zE,zC,zF] at m
 ·rw [show(!cI f)=true by rw [m];rfl] at e;have e:2=q:=e;subst e;refine Wk ?_
  try subst e
  exact Lf
 rw [show(!cI f)=false by rw [m];rfl] at e;have e:0=q:=e;subst e;refine Wk ?_
 try subst e
 exact Lf
def aUC(a b:Ls):Bool:=(decide (a.A=b.A)&&decide (a.I=b.I))&&decide (a.R=b.R)
theorem bTO(a b:Ls)(e:dM a)(f:dM b):aM Tryz.prog 94 [] [.agg a.c,.agg b.c] (.bool (aUC a b)) []:=by
 have B:=e.a;have h2:=e.i;have C:=e.r;have j:=f.a;have m:=f.i;have z:=f.r;refine cK Tryz.func94 ?_;refine Wk3 (bDT a.A b.A false false (by omega) (by omega)) (bDT a.I b.I false false (by omega) (by omega)) (bDT a.R b.R false false (by omega) (by omega)) ?_;refine⟨[],trivial,rfl,trivial,rfl,?_⟩
 repeat' (first |exact trivial |rfl |exact .inl rfl |exact .inr rfl |exact id |exact zbc |apply And.intro)
 unfold aUC;cases decide (a.A=b.A)<;> cases decide (a.I=b.I)<;> rfl
def aQ9(fr:List Int->List Int)(l:Ls)(f:Int)(act:Bool):Ls×Int:=
 bif !dU l then(l,1) else bif !cI f then(l,2) else bif mL l f then(l,5) else
 bif act then(⟨fr l.A,l.I,l.R⟩,0) else(⟨l.A,fr l.I,l.R⟩,0)
def aV5(l:Ls)(f:Int)(act:Bool):Ls×Int:=aQ9 (λx=>f::wo x f) l f act
def tC(l:Ls)(f:Int)(act:Bool):Ls×Int:=aQ9 (λx=>f::x) l f act
theorem bOR(l:Ls)(f:Int)(j:Bool)(z:dM l):aM Tryz.prog 149 [] [.agg l.c,.int .i64 f,.bool j] (.tup [.agg (aV5 l f j).1.c,.int .i64 (aV5 l f j).2]) []:=by
 have E:=z.a;have h2:=z.i;have F:=z.r;refine cK Tryz.func149 ?_;generalize e:aV5 l f j=q;rw [aV5,aQ9] at e;refine Wk2 (aOW l z) (bA8 l f z) ?_;refine aC (λm=>?_) (λm=>?_)<;> try simp only [zD,zA,zE,zC,zF] at m
 ·have e:(l,mD l f)=q:=by rw [<-e];unfold mD;unfold mD at m;revert m;cases dU l <;> cases cI f <;> intro m <;> first |rfl |exact absurd m (by decide)
  subst e;refine Wk ?_
  try subst e
  exact Lf
 have e1:dU l=true:=by unfold mD at m;cases h:dU l <;> simp [h] at m⊢
 have D:cI f=true:=by unfold mD at m;cases h:cI f <;> simp [h,e1] at m⊢
 rw [e1,D] at e;simp only [zK,zcf] at e;refine cO (bA9 l f z) ?_;refine aC (λB=>?_) (λB=>?_)<;> try simp only [zD,zA,zE,zC,zF] at B
 ·rw [B,zct] at e;subst e;refine Wk ?_
  try subst e
  exact Lf
 rw [B,zcf] at e;refine Wk ?_;refine aC (λC=>?_) (λC=>?_)<;> try simp only [zD,zA,zE,zC,zF] at C
 ·rw [C,zct] at e;subst e;refine cO (aJW l.A false f (by omega)) ?_
  try subst e
  exact Lf
 rw [C,zcf] at e;subst e;refine cO (aJW l.I false f (by omega)) ?_
 try subst e
 exact Lf
theorem aD9(f:Int):(bif decide (f<1) then true else decide (64<f))= !cI f:=by rw [<-aOG];rfl
theorem bOJ(l:Ls)(f:Int)(j:Bool)(m:dM l):aM Tryz.prog 119 [] [.agg l.c,.int .i64 f,.bool j] (.tup [.agg (tC l f j).1.c,.int .i64 (tC l f j).2]) []:=by
 have E:=m.a;have h2:=m.i;have F:=m.r;refine cK Tryz.func119 ?_;generalize e:tC l f j=q;rw [tC,aQ9] at e;refine cO (aOU l m) ?_;refine aC (λz=>?_) (λz=>?_)<;> try simp only [zD,zA,zE,zC,zF] at z
 ·rw [show(!dU l)=true by rw [z];rfl,zct] at e;subst e;refine Wk ?_
  try subst e
  exact Lf
 rw [show(!dU l)=false by rw [z];rfl,zcf] at e;refine Wk ?_;rw [aD9];refine aC (λB=>?_) (λB=>?_)<;> try simp only [zD,zA,zE,zC,zF] at B
 ·rw [show(!cI f)=true by rw [B];rfl,zct] at e;subst e;refine Wk ?_
  try subst e
  exact Lf
 rw [show(!cI f)=false by rw [B];rfl,zcf] at e;refine cO (bA3 l f m) ?_;refine aC (λC=>?_) (λC=>?_)<;> try simp only [zD,zA,zE,zC,zF] at C
 ·rw [C,zct] at e;subst e;refine Wk ?_
  try subst e
  exact Lf
 rw [C,zcf] at e;refine Wk ?_;refine aC (λD=>?_) (λD=>?_)<;> try simp only [zD,zA,zE,zC,zF] at D
 ·rw [D,zct] at e;subst e;refine cO (aJV l.A false f (by omega)) ?_
  try subst e
  exact Lf
 rw [D,zcf] at e;subst e;refine cO (aJV l.I false f (by omega)) ?_
 try subst e
 exact Lf
def nF(l:Ls)(f:Int):Ls×Int:= bif !dU l then(l,1) else bif !cI f then(l,2) else bif !mL l f then(l,4) else(⟨wo l.A f,wo l.I f,wo l.R f⟩,0)
theorem aF0 {l:Ls} {f:Int} {α:Type} (a:Int->α)(b:α)(e:(mD l f != 0)=true):a (mD l f)=bif !dU l then a 1 else bif !cI f then a 2 else b:=by unfold mD at e⊢;revert e;cases dU l <;> cases cI f <;> intro e <;> first |rfl |exact absurd e (by decide)
theorem aQ2 {l:Ls} {f:Int} (e:(mD l f != 0)=false):dU l=true/\cI f=true:=by unfold mD at e;revert e;cases dU l <;> cases cI f <;> intro e <;> first |exact⟨rfl,rfl⟩|exact absurd e (by decide)
theorem bHA(l:Ls)(f:Int)(m:dM l):aM Tryz.prog 245 [] [.agg l.c,.int .i64 f] (.tup [.agg (nF l f).1.c,.int .i64 (nF l f).2]) []:=by
 have D:=m.a;have h2:=m.i;have E:=m.r;refine cK Tryz.func245 ?_;generalize j:nF l f=q;rw [nF] at j;refine cO (bA8 l f m) ?_;refine aC (λz=>?_) (λz=>?_)<;> try simp only [zD,zA,zE,zC,zF] at z
 ·rw [<-aF0 (λe=>(l,e)) _ z] at j;subst j;refine cO (aOW l m) ?_
  try subst j
  exact Lf
 obtain⟨e1,C⟩:=aQ2 z;rw [e1,C] at j;simp only [zK,zcf] at j;refine cO (bA9 l f m) ?_;refine aC (λB=>?_) (λB=>?_)<;> try simp only [zD,zA,zE,zC,zF] at B
 ·rw [show(!mL l f)=true by rw [B];rfl,zct] at j;subst j;refine cO (aOW l m) ?_
  try subst j
  exact Lf
 rw [show(!mL l f)=false by rw [B];rfl,zcf] at j;subst j;refine Wk3 (aEH l.A false f (by omega)) (aEH l.I false f (by omega)) (aEH l.R false f (by omega)) ?_
 try subst j
 exact Lf
theorem bPK(l:Ls)(f:Int)(j:dM l):aM Tryz.prog 249 [] [.agg l.c,.int .i64 f] (.tup [.agg (nF l f).1.c,.int .i64 (nF l f).2]) []:=by
 have C:=j.a;have h2:=j.i;have D:=j.r;refine cK Tryz.func249 ?_;generalize e:nF l f=q;rw [nF] at e;refine cO (aOU l j) ?_;refine aC (λm=>?_) (λm=>?_)<;> try simp only [zD,zA,zE,zC,zF] at m
 ·rw [show(!dU l)=true by rw [m];rfl,zct] at e;subst e;refine Wk ?_
  try subst e
  exact Lf
 rw [show(!dU l)=false by rw [m];rfl,zcf] at e;refine Wk ?_;rw [aD9];refine aC (λz=>?_) (λz=>?_)<;> try simp only [zD,zA,zE,zC,zF] at z
 ·rw [show(!cI f)=true by rw [z];rfl,zct] at e;subst e;refine Wk ?_
  try subst e
  exact Lf
 rw [show(!cI f)=false by rw [z];rfl,zcf] at e;refine cO (bA3 l f j) ?_;refine aC (λB=>?_) (λB=>?_)<;> try simp only [zD,zA,zE,zC,zF] at B
 ·rw [show(!mL l f)=true by rw [B];rfl,zct] at e;subst e;refine Wk ?_
  try subst e
  exact Lf
 rw [show(!mL l f)=false by rw [B];rfl,zcf] at e;subst e;refine Wk3 (aEG l.A false f (by omega)) (aEG l.I false f (by omega)) (aEG l.R false f (by omega)) ?_
 try subst e
 exact Lf
structure gV(l:Ls):Prop where
 nodup:(l.A++l.I).Nodup
 known:∀f∈l.A++l.I,1<=f/\f<=64
 asc:l.R.Pairwise (·< ·)
 sub:∀f∈l.R,f∈l.A++l.I
theorem nL(f:Int):cI f=true↔1<=f/\f<=64:=by simp [cI]
theorem aQD {l:List Int} (step:∀i,i+1<l.length->l.getD i 0<l.getD (i+1) 0):l.Pairwise (·< ·):=by
 have f:∀d i,i+d+1<l.length->l.getD i 0<l.getD (i+d+1) 0:=λd=>by
  induction d with
  |zero=>exact λi e=>step i e
  |succ d z=> intro i e;have B:=z i (by omega);have h2:=step (i+d+1) (by omega);rw [show i+(d+1)+1=i+d+1+1 by omega];omega
 refine List.pairwise_iff_getElem.2 λi j e C m=>?_;rw [fO,fO];have :=f (j-i-1) i (by omega)
 rwa [show i+(j-i-1)+1=j by omega] at this
theorem bF(l:Ls):dU l=true↔gV l:=by
 rw [dU,Bool.and_eq_true];generalize z:l.A++l.I=B;constructor
 ·rintro ⟨F,h2⟩;refine⟨?_,?_,?_,?_⟩
  ·rw [z];refine List.pairwise_iff_getElem.2 λi j m C K e=>?_;have :=lV C F;simp only [aF3,zH,zdn] at this;refine this.2 ?_;rw [<-fO B j C,<-e];rw [List.mem_take_iff_getElem];exact⟨i,by omega,rfl⟩
  ·rw [z];intro f D;obtain⟨i,m,rfl⟩:=zL D;have :=lV m F;simp only [aF3,zH,zC] at this;rw [fO B i m];exact(nL _).1 this.1
  ·refine aQD λi m=>?_;have :=lV m h2;simp only [aGI,zH,Bool.and_eq_false_iff,zdn] at this;have J:=this.2;rw [Nat.add_sub_cancel] at J;omega
  ·rw [z];intro f D;obtain⟨i,m,rfl⟩:=zL D;have :=lV m h2;simp only [aGI,zH,zC,decide_eq_true_eq] at this;rw [fO l.R i m];exact this.1
 ·intro h;have H:=h.nodup;have G:=h.known;have E:=h.sub;rw [z] at H G E;refine⟨sG λi m=>?_,sG λi m=>?_⟩
  ·simp only [aF3,zH,zC,zdn];rw [<-fO B i m];refine⟨(nL _).2 (G _ (zO m)),λM=>?_⟩;obtain⟨j,C,e⟩:=zL M;rw [zJ] at C;rw [List.getElem_take] at e;exact List.pairwise_iff_getElem.1 H j i (by omega) m (by omega) e
  ·simp only [aGI,zH,zC,decide_eq_true_eq]
   first |refine aG (by rw [<-fO l.R i m];exact E _ (zO m)) ?_ |refine⟨by rw [<-fO l.R i m];exact E _ (zO m),?_⟩
   by_cases e:i=0
   ·simp [e]
   ·have :=lX h.asc (i-1) i (by omega) m;rw [show decide (l.R.getD i 0<=l.R.getD (i-1) 0)=false by rw [zdn];omega,Bool.and_false]
theorem aS1 {l:List Int} (h:l.Nodup) {x:Int} (f:x∈l):(wo l x).length+1=l.length:=by have e:=List.Nodup.erase_eq_filter h x;rw [wo,<-e,List.length_erase_of_mem f];have :=List.length_pos_of_mem f;omega
theorem vS:∀(n:Nat) {l:List Int} {lo:Int},l.Nodup->(∀x∈l,lo<=x/\x<lo+n)->l.length<=n
 |0,[],_,_,_=>zN 0
 |0,x::r,lo,_,h=>by have :=h x (by simp);omega
 |n+1,l,lo,j,h=>by
  have e:(wo l (lo+n)).Nodup:=j.sublist zM;have :=vS n (l:=wo l (lo+n)) (lo:=lo) e λx z=>by obtain⟨m,h2⟩:=eL.1 z;have :=h x m;omega
  by_cases f:(lo+n)∈l
  ·have :=aS1 j f;omega
  ·rw [sQ f] at this;omega
theorem gV.len {l:Ls} (h:gV l):(l.A++l.I).length<=64:=vS 64 (lo:=1) h.nodup λx e=>by have :=h.known x e;omega
theorem gV.lenR {l:Ls} (h:gV l):l.R.length<=64:=vS 64 (lo:=1) (h.asc.imp λh=>by omega) λx e=>by have :=h.known x (h.sub x e);omega
theorem gV.small {l:Ls} (h:gV l):dM l:=by have :=h.len;have :=h.lenR;rw [zG] at *;exact⟨by omega,by omega,by omega⟩
theorem gV.notA {l:Ls} (h:gV l) {f:Int} (e:f∈l.I):f∉l.A:=λj=>(List.nodup_append.1 h.nodup).2.2 f j f e rfl
theorem gV.notI {l:Ls} (h:gV l) {f:Int} (e:f∈l.A):f∉l.I:=λj=>h.notA j e
theorem aIN {l:List Int} (h:l.Nodup)(x:Int):(wo l x).Nodup:=h.sublist zM
theorem aMQ {l:List Int} (h:l.Pairwise (·< ·))(x:Int):(wo l x).Pairwise (·< ·):=h.sublist zM
def nH(l:Ls)(f:Int):Ls×Int:=
 bif !dU l then(l,1) else bif !cI f then(l,2) else bif !mL l f then(l,4) else
 bif !decide (f∈l.R) then(⟨l.A,l.I,iR l.R (fM l.R f) f⟩,0) else bif decide (f∈l.I) then(⟨f::wo l.A f,wo l.I f,wo l.R f⟩,0) else(l,0)
theorem bR4(l:Ls)(f:Int)(m:dM l):aM Tryz.prog 99 [] [.agg l.c,.int .i64 f] (.tup [.agg (nH l f).1.c,.int .i64 (nH l f).2]) []:=by
 have F:=m.a;have h2:=m.i;have G:=m.r;refine cK Tryz.func99 ?_;generalize e:nH l f=q;rw [nH] at e;refine cO (aOU l m) ?_;refine aC (λz=>?_) (λz=>?_)<;> try simp only [zD,zA,zE,zC,zF] at z
 ·rw [show(!dU l)=true by rw [z];rfl,zct] at e;subst e;refine Wk ?_
  try subst e
  exact Lf
 have E:=(bF l).1 z;rw [show(!dU l)=false by rw [z];rfl,zcf] at e;refine Wk ?_;rw [aD9];refine aC (λC=>?_) (λC=>?_)<;> try simp only [zD,zA,zE,zC,zF] at C
 ·rw [show(!cI f)=true by rw [C];rfl,zct] at e;subst e;refine Wk ?_
  try subst e
  exact Lf
 rw [show(!cI f)=false by rw [C];rfl,zcf] at e;refine cO (bA3 l f m) ?_;refine aC (λD=>?_) (λD=>?_)<;> try simp only [zD,zA,zE,zC,zF] at D
 ·rw [show(!mL l f)=true by rw [D];rfl,zct] at e;subst e;refine Wk ?_
  try subst e
  exact Lf
 rw [show(!mL l f)=false by rw [D];rfl,zcf] at e;refine cO (aBW l.R false f (by omega)) ?_;rw [atN];refine aC (λj=>?_) (λj=>?_)<;> try simp only [zD,zA,zE,zC,zF] at j
 ·have j:f∉l.R:=by simpa using j
  rw [show(!decide (f∈l.R))=true by simpa using j,zct] at e;subst e;refine cO (bP6 l.R false f (by omega) j) ?_
  try subst e
  exact Lf
 have j:f∈l.R:=by simpa using j
 rw [show(!decide (f∈l.R))=false by simpa using j,zcf] at e;refine cO (aBW l.I false f (by omega)) ?_;rw [atM];refine aC (λB=>?_) (λB=>?_)<;> try simp only [zD,zA,zE,zC,zF] at B
 ·rw [B,zct] at e;rw [sQ (E.notA (by simpa using B))] at e;subst e;refine Wk3 (aJV l.A false f (by omega)) (aEG l.I false f (by omega)) (aEG l.R false f (by omega)) ?_
  try subst e
  exact Lf
 rw [B,zcf] at e;subst e;refine Wk ?_
 try subst e
 exact Lf
def dP(l:Ls):Int:=l.A.getD (l.A.length-1) 0
def jS(l:Ls):List Int:=l.A.take (l.A.length-1)
def aGJ(l:Ls):Ls:=bif decide (dP l∈l.R) then⟨dP l::jS l,l.I,wo l.R (dP l)⟩ else⟨jS l,dP l::l.I,l.R⟩
def aF5:Nat->Ls->Ls
 |0,l=>l
 |n+1,l=>bif decide ((l.A.length:Int)<=(l.I.length:Int)) then l else aF5 n (aGJ l)
def tK(l:Ls):Ls:=bif !dU l then l else aF5 l.A.length l
theorem aS2 {l:Ls} (h:0<l.A.length):l.A=jS l++ [dP l]:=by have :=zI (l:=l.A) (i:=l.A.length-1) (by omega);rw [show l.A.length-1+1=l.A.length by omega,zP,fO _ _ (by omega)] at this;exact this
theorem aJ4 {l:Ls} (h:0<l.A.length):((aGJ l).A++(aGJ l).I).Perm (l.A++l.I):=by
 have e:=aS2 h;unfold aGJ
 cases decide (dP l∈l.R) with
 |true=>
  simp only [zct]
  conv=>rhs;rw [e]
  exact List.Perm.append_right _ (List.perm_append_comm (l₁:= [dP l]))
 |false=>
  simp only [zcf]
  conv=>rhs;rw [e]
  rw [zT];rfl
theorem gV.of_perm {l m:Ls} (h:gV l)(j:(m.A++m.I).Perm (l.A++l.I))(z:m.R.Pairwise (·< ·))(B:∀f∈m.R,f∈l.A++l.I):gV m:= ⟨j.nodup_iff.2 h.nodup,λf e=>h.known f (j.mem_iff.1 e),z,λf e=>j.mem_iff.2 (B f e)⟩
theorem gV.bal {l:Ls} (h:gV l)(e:0<l.A.length):gV (aGJ l):=by
 refine h.of_perm (aJ4 e) ?_ ?_
 ·unfold aGJ
  cases decide (dP l∈l.R) with
  |true=>exact aMQ h.asc _
  |false=>exact h.asc
 ·unfold aGJ
  cases decide (dP l∈l.R) with
  |true=>exact λf j=>h.sub f (eL.1 j).1
  |false=>exact h.sub
theorem gV.dP {l:Ls} (h:gV l)(z:0<l.A.length):dP l∈l.A/\wo l.A (dP l)=jS l/\wo l.I (YtmhapcbjjpadnaaGreat.dP l)=l.I:=by
 have e:=aS2 z;have j:YtmhapcbjjpadnaaGreat.dP l∈l.A:=by rw [e];simp
 have m:=h.nodup;rw [e,zT] at m;have f:=(List.nodup_append.1 m).2.2;refine⟨j,?_,sQ (h.notI j)⟩;have B:YtmhapcbjjpadnaaGreat.dP l∉jS l:=λC=>f _ C _ (by simp) rfl;rw [show wo l.A (YtmhapcbjjpadnaaGreat.dP l)=wo (jS l++ [YtmhapcbjjpadnaaGreat.dP l]) (YtmhapcbjjpadnaaGreat.dP l) by rw [<-e]];rw [wo,List.filter_append];rw [show(jS l).filter (λy=>y != YtmhapcbjjpadnaaGreat.dP l)=jS l from sQ B];simp
theorem bI4(l:Ls)(h:0<l.A.length):List.drop (Int.toNat 0) (List.take (((l.A.length-1:Nat):Int)).toNat (aB l.A))=aB (jS l):=by rw [Int.toNat_natCast,jS,aB,aB,List.map_take];rfl
theorem bPX(l:Ls)(N:dM l):aM Tryz.prog 282 [] [.agg l.c] (.agg (tK l).c) []:=by
 refine cK Tryz.func282 ?_;generalize j:tK l=q;rw [tK] at j;refine Wk2 (aOW l N) (aTL l N) ?_;refine aC (λE=>?_) (λE=>?_)<;> try simp only [zD,zA,zE,zC,zF] at E
 ·rw [show(!dU l)=true by rw [E];rfl,zct] at j;subst j;refine Wk ?_
  try subst j
  exact Lf
 have M:=(bF l).1 E;rw [show(!dU l)=false by rw [E];rfl,zcf] at j;refine Wk ?_;rw [aA];generalize hn:l.A.length=n at j⊢;have T:n<=64:=by have :=M.len;rw [zG] at this;omega
 refine⟨Nat×Ls,λp=>(p.1<=n/\aF5 (n-p.1) p.2=q)/\gV p.2,λp=>⟨[(2,⟨[],true,.ptr 0 0 0⟩),(3,⟨[],true,.ptr 1 0 0⟩),(13,⟨[],true,.int .i64 (n:Int)⟩),(14,⟨[],true,.int .i64 (p.1:Int)⟩)],
  [(0,.box [.lst 0 true [],.lst 0 true [],.lst 0 true []]),(1,.box p.2.c)],2⟩,λp=>n-p.1,⟨(0,l),⟨⟨by simp,j⟩,M⟩,?_⟩,λp W=>?_⟩
 ·exact Vw [some 1,some 2]
 obtain⟨i,m⟩:=p;obtain⟨⟨J,e⟩,D⟩:=W;dsimp only at J e D⊢;have H:=D.len;rw [zG] at H;have Q:=D.lenR;refine Wk ?_;refine aC (λB=>?_) (λB=>?_)<;> try simp only [zD,zA,zE,zC,zF] at B
 ·have B:i<n:=by simp at B;omega
  obtain⟨k,j⟩:∃k,n-i=k+1:=⟨n-i-1,by omega⟩;rw [j,aF5] at e;have C:IntKind.i64.wrap ((i:Int)+1)=((i+1:Nat):Int):=by rw [aP (by omega) (by omega)];omega
  refine Wk ?_;rw [aA,aA];refine aC (λz=>?_) (λz=>?_)<;> try simp only [zD,zA,zE,zC,zF] at z
  ·rw [z,zct] at e;subst e;refine Wk ?_
   try subst j
   exact Lf
  rw [z,zcf] at e;have z:0<m.A.length:=by simp at z;omega
  obtain⟨l1,Y,Z⟩:=D.dP z;have G:m.A.getD (m.A.length-1) 0=dP m:=rfl;refine Wk ?_;rw [aA,aP (n:=(m.A.length:Int)-1) (by omega) (by omega),show((m.A.length:Int)-1)=((m.A.length-1:Nat):Int) by omega];refine aG (⟨rfl,by omega,by omega⟩) ?_;rw [cT m.A (m.A.length-1) (by omega),G];refine cO (aOV m.R false (dP m) (by omega)) ?_;have f:=D.bal z;have hS:aGJ m=bif decide (dP m∈m.R) then⟨dP m::jS m,m.I,wo m.R (dP m)⟩ else⟨jS m,dP m::m.I,m.R⟩:=rfl
  have F:k=n- (i+1):=by omega
  rw [F] at e;generalize aGJ m=O at f e hS;refine aC (λK=>?_) (λK=>?_)<;> try simp only [zD,zA,zE,zC,zF] at K
  ·rw [K,zct] at hS;refine Wk2 (aJW m.A false (dP m) (by omega)) (aEH m.R false (dP m) (by omega)) ?_;rw [Y,C];refine⟨(i+1,O),⟨⟨by show i+1<=n;omega,e⟩,f⟩,?_,by show n- (i+1)<n-i;omega⟩;subst hS;exact Vw [some 0,some 1]
  rw [K,zcf] at hS;refine Wk ?_;rw [aA,aP (n:=(m.A.length:Int)-1) (by omega) (by omega),show((m.A.length:Int)-1)=((m.A.length-1:Nat):Int) by omega];refine aG (⟨.inl rfl,Int.le_refl _,by omega,by omega⟩) ?_;rw [bI4 m z];refine cO (aJW m.I false (dP m) (by omega)) ?_;rw [Z,C];refine⟨(i+1,O),⟨⟨by show i+1<=n;omega,e⟩,f⟩,?_,by show n- (i+1)<n-i;omega⟩;subst hS;exact Vw [some 0,some 1]
 have B:i=n:=by simp at B;omega
 rw [B,Nat.sub_self] at e;have e:m=q:=e;subst e;refine Wk ?_
 try subst j
 exact Lf
theorem bTI(l:Ls)(Q:dM l):aM Tryz.prog 86 [] [.agg l.c] (.agg (tK l).c) []:=by
 refine eT (ob0:= []) [.r 41] Tryz.func86 rfl rfl rfl rfl ?_;generalize j:tK l=q;rw [tK] at j;refine cO (aOU l Q) ?_;refine aC (λD=>?_) (λD=>?_)<;> try simp only [zD,zA,zE,zC,zF] at D
 ·rw [show(!dU l)=true by rw [D];rfl,zct] at j;subst j;refine Wk ?_
  try subst j
  exact Lf
 have N:=(bF l).1 D;rw [show(!dU l)=false by rw [D];rfl,zcf] at j;refine Wk ?_;rw [aA];have G:l.A.length<=64:=by have :=N.len;rw [zG] at this;omega
 refine⟨Nat×Ls,λp=>(p.1<=64/\aF5 p.1 p.2=q)/\gV p.2,λp=>⟨[(1,⟨[],true,.ptr 0 0 0⟩),(2,⟨[],true,.ptr 1 0 0⟩),(3,⟨[],true,.int .i64 (p.1:Int)⟩)],
  [(0,.box p.2.c),(1,.box [.lst 0 true [],.lst 0 true [],.lst 0 true []])],2⟩,λp=>p.1,⟨(l.A.length,l),⟨⟨G,j⟩,N⟩,?_⟩,λp W=>?_⟩
 ·exact Vw [some 0,some 1]
 obtain⟨n,m⟩:=p;obtain⟨⟨J,e⟩,C⟩:=W;dsimp only at J e C⊢;have F:=C.len;rw [zG] at F;have T:=C.lenR;refine Wk ?_;rw [aA,aA]
 by_cases H:n=0
 ·subst H;have e:m=q:=e;subst e;rw [show decide (0< (((0:Nat)):Int))=false from rfl];refine Wk ?_
  try subst j
  exact Lf
 obtain⟨k,rfl⟩:∃k,n=k+1:=⟨n-1,by omega⟩;rw [aF5] at e;rw [show decide (0< (((k+1:Nat)):Int))=true by rw [decide_eq_true_eq];omega,zct];refine aC (λz=>?_) (λz=>?_)<;> try simp only [zD,zA,zE,zC,zF] at z
 ·have z:m.I.length<m.A.length:=by simp at z;omega
  rw [show decide ((m.A.length:Int)<=(m.I.length:Int))=false by rw [zdn];omega,zcf] at e;have z:0<m.A.length:=by omega
  have E:m.A.getD (m.A.length-1) 0=dP m:=rfl;have B:IntKind.i64.wrap (((k+1:Nat):Int)-1)=(k:Int):=by rw [aP (by omega) (by omega)];omega
  refine Wk ?_;rw [aA,aP (n:=(m.A.length:Int)-1) (by omega) (by omega),show((m.A.length:Int)-1)=((m.A.length-1:Nat):Int) by omega];refine aG (⟨rfl,by omega,by omega⟩) ?_;rw [cT m.A (m.A.length-1) (by omega),E];refine Wk ?_
  refine⟨Unit,λ_=>True,λ_=>⟨[(1,⟨[],true,.ptr 0 0 0⟩),(2,⟨[],true,.ptr 1 0 0⟩),(3,⟨[],true,.int .i64 ((k+1:Nat):Int)⟩),(4,⟨[],true,.int .i64 (dP m)⟩),(5,⟨[],true,.lst 1 false (aB (jS m))⟩)],
   [(0,.box m.c),(1,.box [.lst 0 true [],.lst 0 true [],.lst 0 true []])],2⟩,?_,λ_ _=>?_⟩
  ·refine Wk ?_;rw [aA,aP (n:=(m.A.length:Int)-1) (by omega) (by omega),show((m.A.length:Int)-1)=((m.A.length-1:Nat):Int) by omega];refine aG (⟨.inl rfl,Int.le_refl _,by omega,by omega⟩) ?_;rw [bI4 m z];refine Wk ?_;have K:(jS m).length<=64:=by rw [jS,zJ];omega
   rw [aA];refine cA (by omega) (by omega) ?_;refine Wk ?_;refine⟨(),trivial,?_⟩;refine bU [some 0,some 1] rfl rfl ?_ rfl ?_ rfl ?_
   repeat' (first |exact trivial |rfl |exact .inl rfl |exact .inr rfl |exact id |exact zbc |apply And.intro)
   ·show 0+(jS m).length<=_;rw [aA];omega
   ·exact dB (aA _)
  have K:(jS m).length<=64:=by rw [jS,zJ];omega
  refine cO (aBW m.R false (dP m) (by omega)) ?_;rw [atM];have f:=C.bal z;have hS:aGJ m=bif decide (dP m∈m.R) then⟨dP m::jS m,m.I,wo m.R (dP m)⟩ else⟨jS m,dP m::m.I,m.R⟩:=rfl
  generalize aGJ m=O at f e hS;refine aC (λM=>?_) (λM=>?_)<;> try simp only [zD,zA,zE,zC,zF] at M
  ·rw [M,zct] at hS;refine Wk2 (aJV (jS m) false (dP m) (by omega)) (aEG m.R false (dP m) (by omega)) ?_;rw [B];refine⟨(k,O),⟨⟨by show k<=64;omega,e⟩,f⟩,?_,by show k<k+1;omega⟩;subst hS;exact Vw [some 0,some 1]
  rw [M,zcf] at hS;refine cO (aJV m.I false (dP m) (by omega)) ?_;rw [B];refine⟨(k,O),⟨⟨by show k<=64;omega,e⟩,f⟩,?_,by show k<k+1;omega⟩;subst hS;exact Vw [some 0,some 1]
 have z:m.A.length<=m.I.length:=by simp at z;omega
 rw [show decide ((m.A.length:Int)<=(m.I.length:Int))=true by rw [decide_eq_true_eq];omega,zct] at e;subst e;refine Wk ?_
 try subst j
 exact Lf
structure ScS where
 I:List Int
 R:List Int
 v:List Int
def lR(R0 held:List Int)(s:ScS)(f:Int):ScS:= bif decide (f∈held) then s else bif decide (f∈R0) then⟨f::wo s.I f,wo s.R f,s.v⟩ else⟨s.I,s.R,s.v++ [f]⟩
def jG(R0 held:List Int)(n:Int):List Int->ScS->ScS
 | [],s=>s
 |f::r,s=>bif decide ((s.v.length:Int)<n) then jG R0 held n r (lR R0 held s f) else s
def kS(l:Ls)(n:Int)(held:List Int):Ls×List Int:=
 bif !dU l then(l,[]) else
 (⟨l.A,(jG l.R held n l.I.reverse ⟨l.I,l.R,[]⟩).I,(jG l.R held n l.I.reverse ⟨l.I,l.R,[]⟩).R⟩,(jG l.R held n l.I.reverse ⟨l.I,l.R,[]⟩).v)
theorem aPJ {l:List Int} {k:Nat} (h:k<l.length):(l.take (k+1)).reverse=l[k]::(l.take k).reverse:=by rw [zI h,List.reverse_append];rfl
theorem aK6(l:List Int):(l.take l.length).reverse=l.reverse:=by rw [zP]
structure ScB(l:Ls)(k:Nat)(s:ScS):Prop where
 kk:k<=l.I.length
 i:s.I.length+k<=l.I.length+l.I.length
 r:s.R.length<=l.R.length
 v:s.v.length+k<=l.I.length
theorem ScB.next {l:Ls} {k:Nat} {s:ScS} (h:ScB l (k+1) s)(e held:List Int)(f:Int):ScB l k (lR e held s f):=by
 obtain⟨m,h2,j,h4⟩:=h;unfold lR
 cases decide (f∈held) with
 |true=>exact⟨by omega,by simp only [zct];omega,j,by simp only [zct];omega⟩
 |false=>
  cases decide (f∈e) with
  |true=> have :=aDZ s.I f;have :=aDZ s.R f;exact⟨by omega,by simp only [zct,zcf,List.length_cons];omega,by simp only [zct,zcf];omega,by simp only [zct,zcf];omega⟩
  |false=>exact⟨by omega,by simp only [zcf];omega,j,by simp only [zcf,zG,List.length_singleton];omega⟩
theorem bPY(l:Ls)(n:Int)(held:List Int)(t:Bool)(hl:dM l)(hh:held.length<=100000):aM Tryz.prog 283 [] [.agg l.c,.int .i64 n,.lst 1 t (aB held)] (.tup [.agg (kS l n held).1.c,.lst 1 false (aB (kS l n held).2)]) []:=by
 refine cK Tryz.func283 ?_;generalize hk:kS l n held=q;rw [kS] at hk;refine Wk2 (aOW l hl) (aTL l hl) ?_;refine aC (λc1=>?_) (λc1=>?_)<;> try simp only [zD,zA,zE,zC,zF] at c1
 ·rw [show(!dU l)=true by rw [c1];rfl,zct] at hk;subst hk;refine Wk ?_
  try subst hk
  exact Lf
 have hP:=(bF l).1 c1;rw [show(!dU l)=false by rw [c1];rfl,zcf] at hk;have hml:=hP.len;rw [zG] at hml;have hmr:=hP.lenR;refine Wk ?_;rw [aA]
 refine⟨Nat×List (List Int×V),λp=>p.1<=held.length/\∀f,fJ p.2 [f] (.bool false)=.bool (decide (f∈held.take p.1)),λp=>⟨[(1,⟨[],true,.int .i64 n⟩),(3,⟨[],true,.ptr 0 0 0⟩),(6,⟨[],true,.ptr 1 0 0⟩),(8,⟨[],true,.ptr 2 0 0⟩),(9,⟨[],true,.mp 3⟩),(22,⟨[],true,.lst 1 t (aB held)⟩),(23,⟨[],true,.int .i64 (held.length:Int)⟩),(24,⟨[],true,.int .i64 (p.1:Int)⟩)],
  [(0,.box l.c),(1,.box [.lst 0 true [],.lst 0 true [],.lst 0 true []]),(2,.box l.c),(3,.mp (1,p.2))],4⟩,λp=>held.length-p.1,⟨(0,[]),⟨by simp,λf=>by simp [fJ]⟩,?_⟩,λp hp=>?_⟩
 ·exact Vw [some 0,some 1,some 2,some 3]
 obtain⟨i,M⟩:=p;obtain⟨hp1,hM⟩:=hp;dsimp only at hp1 hM⊢;refine Wk ?_;refine aC (λb1=>?_) (λb1=>?_)<;> try simp only [zD,zA,zE,zC,zF] at b1
 ·have b1:i<held.length:=by simp at b1;omega
  have hi1:IntKind.i64.wrap ((i:Int)+1)=((i+1:Nat):Int):=by rw [aP (by omega) (by omega)];omega
  refine Wk ?_;refine aG (⟨rfl,by omega,by rw [aA];omega⟩) ?_;rw [cT held i b1];have hmem:∀y,y∈held.take (i+1)↔y∈held.take i\/y=held.getD i 0:=λy=>by rw [zI b1,List.mem_append,List.mem_singleton,fO held i b1]
  generalize held.getD i 0=f at hmem⊢;refine Wk ?_;rw [hi1];refine⟨(i+1,iU M [f] (.bool true)),⟨by show i+1<=_;omega,λy=>?_⟩,?_,by show held.length- (i+1)<held.length-i;omega⟩
  ·show fJ (iU M [f] (.bool true)) [y] (.bool false)=.bool (decide (y∈held.take (i+1)));rw [aDE,hM y];simp only [List.cons.injEq,and_true]
   by_cases e:y=f
   ·rw [if_pos e,show decide (y∈held.take (i+1))=true by rw [decide_eq_true_eq,hmem];exact .inr e]
   ·rw [if_neg e]
    congr 1
    exact decide_eq_decide.2 (by rw [hmem];exact⟨.inl,λh=>h.resolve_right e⟩)
  exact Vw [some 0,some 1,some 2,some 3]
 have b1:i=held.length:=by simp at b1;omega
 subst b1;rw [zP] at hM;refine Wk ?_;rw [aA,aP (n:=(l.I.length:Int)-1) (by omega) (by omega)]
 refine⟨Nat×ScS,λp=>ScB l p.1 p.2/\(⟨l.A,(jG l.R held n (l.I.take p.1).reverse p.2).I,(jG l.R held n (l.I.take p.1).reverse p.2).R⟩,(jG l.R held n (l.I.take p.1).reverse p.2).v)=q,λp=>⟨[(1,⟨[],true,.int .i64 n⟩),(3,⟨[],true,.ptr 0 0 0⟩),(6,⟨[],true,.ptr 1 0 0⟩),(8,⟨[],true,.ptr 2 0 0⟩),(9,⟨[],true,.mp 3⟩),(12,⟨[],true,.sl 4 0 p.2.v.length⟩),(13,⟨[],true,.int .i64 ((p.1:Int)-1)⟩)],
  [(0,.box l.c),(1,.box [.lst 0 true [],.lst 0 true [],.lst 0 true []]),(2,.box [.lst 1 false (aB l.A),.lst 1 false (aB p.2.I),.lst 1 false (aB p.2.R)]),(3,.mp (1,M)),(4,.row 1 (aB p.2.v))],5⟩,λp=>p.1,⟨(l.I.length,⟨l.I,l.R,[]⟩),⟨⟨zN _,by show l.I.length+l.I.length<=_;omega,zN _,by show([]:List Int).length+l.I.length<=_;simp⟩,by dsimp only;rw [aK6];exact hk⟩,?_⟩,λp hp=>?_⟩
 ·exact Vw [some 0,some 1,some 2,some 3,none]
 obtain⟨k,s⟩:=p;obtain⟨hB,hq⟩:=hp;dsimp only at hB hq⊢;have hBk:=hB.kk;have hBi:=hB.i;have hBr:=hB.r;have hBv:=hB.v;refine Wk ?_
 by_cases hk0:k=0
 ·subst hk0;rw [show decide (0<=(((0:Nat)):Int)-1)=false from rfl];subst hq;refine Wk ?_;refine⟨[],trivial,rfl,trivial,rfl,?_⟩
  try subst hk
  repeat' (first |exact trivial |rfl |exact .inl rfl |exact .inr rfl |exact id |exact zbc |apply And.intro)
  ·show 0+s.v.length<=_;rw [aA];omega
  ·exact dB (aA _)
 obtain⟨k,rfl⟩:∃j,k=j+1:=⟨k-1,by omega⟩;rw [show(((k+1:Nat):Int)-1)=(k:Int) by omega,show decide (0<=(k:Int))=true by rw [decide_eq_true_eq];omega,zct];have hkl:k<l.I.length:=by omega
 rw [aPJ hkl,jG] at hq;have hw:IntKind.i64.wrap ((k:Int)-1)=(k:Int)-1:=aP (by omega) (by omega);refine aC (λb2=>?_) (λb2=>?_)<;> try simp only [zD,zA,zE,zC,zF] at b2
 ·rw [b2,zct] at hq;have hB':=hB.next l.R held l.I[k];refine Wk ?_;refine aG (⟨rfl,by omega,by rw [aA];omega⟩) ?_;rw [cT l.I k hkl,<-fO l.I k hkl];refine Wk ?_;rw [hM];have hS:lR l.R held s l.I[k]=bif decide (l.I[k]∈held) then s else bif decide (l.I[k]∈l.R) then⟨l.I[k]::wo s.I l.I[k],wo s.R l.I[k],s.v⟩ else⟨s.I,s.R,s.v++ [l.I[k]]⟩:=rfl
  generalize lR l.R held s l.I[k]=s' at hB' hq hS;generalize l.I[k]=f at hS⊢;refine Wk ?_;refine aC (λb3=>?_) (λb3=>?_)<;> try simp only [zD,zA,zE,zC,zF] at b3
  ·rw [b3,zct] at hS;subst hS;refine Wk ?_;rw [hw];refine⟨(k,s'),⟨hB',hq⟩,?_,by show k<k+1;omega⟩;exact Vw [some 0,some 1,some 2,some 3,some 4]
  rw [b3,zcf] at hS;refine cO (aOV l.R false f (by omega)) ?_;refine aC (λb4=>?_) (λb4=>?_)<;> try simp only [zD,zA,zE,zC,zF] at b4
  ·rw [b4,zct] at hS;refine Wk2 (aJW s.I false f (by omega)) (aEH s.R false f (by omega)) ?_;rw [hw];refine⟨(k,s'),⟨hB',hq⟩,?_,by show k<k+1;omega⟩;subst hS;exact Vw [some 0,some 1,some 2,some 3,some 4]
  rw [b4,zcf] at hS;refine Wk ?_;refine aG ((aA s.v).symm) (cA (by show(((aB s.v).length+1:Nat):Int)<=_;rw [aA];omega) (by show((aB s.v).length+1)*8<=_;rw [aA];omega) ?_);refine Wk ?_;rw [hw];refine⟨(k,s'),⟨hB',hq⟩,?_,by show k<k+1;omega⟩;subst hS;refine bU [some 0,some 1,some 2,some 3,some ?k151_4] rfl rfl ?h3_151 ?h4_151 ?h5_151 ?h6_151 ?h7_151
  case' h7_151=>repeat' (first |exact trivial |rfl |exact .inl rfl |exact .inr rfl |exact id |exact zbc |apply And.intro)
  case' h4_151=>rfl
  case' h6_151=>rfl
  case' h3_151=>repeat' (first |exact trivial |rfl |exact .inl rfl |exact .inr rfl |exact id |exact zbc |apply And.intro)
  case' h5_151=>repeat' (first |exact trivial |rfl |exact .inl rfl |exact .inr rfl |exact id |exact zbc |apply And.intro)
  ·exact fG s.v f
  ·show(aB s.v).length+1=_;rw [aA,zG];rfl
 rw [b2,zcf] at hq;subst hq;refine Wk ?_;refine⟨[],trivial,rfl,trivial,rfl,?_⟩
 try subst hk
 repeat' (first |exact trivial |rfl |exact .inl rfl |exact .inr rfl |exact id |exact zbc |apply And.intro)
 ·show 0+s.v.length<=_;rw [aA];omega
 ·exact dB (aA _)
def ScR(l:Ls)(k:Nat)(s:ScS):Prop:=∀(j:Nat) (h:j<l.I.length),j<k->(l.I[j]∈s.R↔l.I[j]∈l.R)
theorem ScR.next {l:Ls} {k:Nat} {s:ScS} (h:ScR l (k+1) s)(B:gV l)(C:k<l.I.length)(held:List Int):ScR l k (lR l.R held s l.I[k]):=λj z f=>by
 have e:=h j z (by omega);have m:l.I[j]≠l.I[k]:=List.pairwise_iff_getElem.1 (List.nodup_append.1 B.nodup).2.1 j k z C f;unfold lR
 cases decide (l.I[k]∈held) with
 |true=>exact e
 |false=>
  cases decide (l.I[k]∈l.R) with
  |true=> simp only [zct,zcf];rw [eL,e];exact⟨λh=>h.1,λh=>⟨h,m⟩⟩
  |false=>exact e
theorem bTJ(l:Ls)(n:Int)(held:List Int)(t:Bool)(hl:dM l)(hh:held.length<=100000):aM Tryz.prog 88 [] [.agg l.c,.int .i64 n,.lst 1 t (aB held)] (.tup [.agg (kS l n held).1.c,.lst 1 false (aB (kS l n held).2)]) []:=by
 refine eT (ob0:= []) [.r 22] Tryz.func88 rfl rfl rfl rfl ?_;generalize hk:kS l n held=q;rw [kS] at hk;refine cO (aOU l hl) ?_;refine aC (λc1=>?_) (λc1=>?_)<;> try simp only [zD,zA,zE,zC,zF] at c1
 ·by_cases c0:dU l=true
  ·have hP:=(bF l).1 c0;have c1:n<1:=by simp [c0] at c1;omega
   rw [c0,zK,zcf] at hk
   have e:jG l.R held n l.I.reverse ⟨l.I,l.R,[]⟩=⟨l.I,l.R,[]⟩:=by
    cases l.I.reverse with
    |nil=>rfl
    |cons f r=> rw [jG,show decide ((([]:List Int).length:Int)<n)=false by rw [zdn];simp;omega];rfl
   rw [e] at hk;subst hk;refine Wk ?_
   try subst hk
   exact Lf
  ·rw [show(!dU l)=true by simpa using c0,zct] at hk;subst hk;refine Wk ?_
   try subst hk
   exact Lf
 have c0:dU l=true:=by
  cases h:dU l with
  |true=>rfl
  |false=>rw [h] at c1;simp at c1
 have hP:=(bF l).1 c0;rw [c0,zK,zcf] at hk;have hml:=hP.len;rw [zG] at hml;have hmr:=hP.lenR;refine Wk ?_
 refine⟨Unit,λ_=>True,λ_=>⟨[(1,⟨[],true,.int .i64 n⟩),(2,⟨[],true,.lst 1 t (aB held)⟩),(3,⟨[],true,.ptr 0 0 0⟩),(6,⟨[],true,.ptr 1 0 0⟩),(8,⟨[],true,.lst 1 false (aB l.I)⟩)],
  [(0,.box l.c),(1,.box [.lst 0 true [],.lst 0 true [],.lst 0 true []])],2⟩,?_,λ_ _=>?_⟩
 ·refine Wk ?_;refine cA (by rw [aA];omega) (by rw [aA];omega) ?_;refine Wk ?_;refine⟨(),trivial,?_⟩;rw [aA];refine bU [some 0,some 1] rfl rfl ?_ rfl ?_ rfl ?_
  repeat' (first |exact trivial |rfl |exact .inl rfl |exact .inr rfl |exact id |exact zbc |apply And.intro)
  ·show 0+l.I.length<=_;rw [aA];omega
  ·exact dB (aA _)
 refine Wk ?_;rw [aA,aP (n:=(l.I.length:Int)-1) (by omega) (by omega)]
 refine⟨Nat×ScS,λp=>(ScB l p.1 p.2/\ScR l p.1 p.2)/\(⟨l.A,(jG l.R held n (l.I.take p.1).reverse p.2).I,(jG l.R held n (l.I.take p.1).reverse p.2).R⟩,(jG l.R held n (l.I.take p.1).reverse p.2).v)=q,λp=>⟨[(1,⟨[],true,.int .i64 n⟩),(2,⟨[],true,.lst 1 t (aB held)⟩),(3,⟨[],true,.ptr 0 0 0⟩),(6,⟨[],true,.ptr 1 0 0⟩),(8,⟨[],true,.lst 1 false (aB l.I)⟩),(9,⟨[],true,.sl 2 0 p.2.v.length⟩),(10,⟨[],true,.int .i64 ((p.1:Int)-1)⟩)],
  [(0,.box [.lst 1 false (aB l.A),.lst 1 false (aB p.2.I),.lst 1 false (aB p.2.R)]),(1,.box [.lst 0 true [],.lst 0 true [],.lst 0 true []]),(2,.row 1 (aB p.2.v))],3⟩,λp=>p.1,⟨(l.I.length,⟨l.I,l.R,[]⟩),⟨⟨⟨zN _,by show l.I.length+l.I.length<=_;omega,zN _,by show([]:List Int).length+l.I.length<=_;simp⟩,λ_ _ _=>Iff.rfl⟩,by dsimp only;rw [aK6];exact hk⟩,?_⟩,λp hp=>?_⟩
 ·exact Vw [some 0,some 1,none]
 obtain⟨k,s⟩:=p;obtain⟨⟨hB,hR⟩,hq⟩:=hp;dsimp only at hB hR hq⊢;have hBk:=hB.kk;have hBi:=hB.i;have hBr:=hB.r;have hBv:=hB.v;refine Wk ?_
 by_cases hk0:k=0
 ·subst hk0;rw [show decide (0<=(((0:Nat)):Int)-1)=false from rfl];subst hq;refine Wk ?_;refine⟨[],trivial,rfl,trivial,rfl,?_⟩
  try subst hk
  repeat' (first |exact trivial |rfl |exact .inl rfl |exact .inr rfl |exact id |exact zbc |apply And.intro)
  ·show 0+s.v.length<=_;rw [aA];omega
  ·exact dB (aA _)
 obtain⟨k,rfl⟩:∃j,k=j+1:=⟨k-1,by omega⟩;rw [show(((k+1:Nat):Int)-1)=(k:Int) by omega,show decide (0<=(k:Int))=true by rw [decide_eq_true_eq];omega,zct];have hkl:k<l.I.length:=by omega
 rw [aPJ hkl,jG] at hq;have hw:IntKind.i64.wrap ((k:Int)-1)=(k:Int)-1:=aP (by omega) (by omega);refine aC (λb2=>?_) (λb2=>?_)<;> try simp only [zD,zA,zE,zC,zF] at b2
 ·rw [b2,zct] at hq;have hB':=hB.next l.R held l.I[k];have hR':=hR.next hP hkl held;have hRk:=hR k hkl (by omega);refine Wk ?_;refine aG (⟨rfl,by omega,by rw [aA];omega⟩) ?_;rw [cT l.I k hkl,<-fO l.I k hkl];have hS:lR l.R held s l.I[k]=bif decide (l.I[k]∈held) then s else bif decide (l.I[k]∈l.R) then⟨l.I[k]::wo s.I l.I[k],wo s.R l.I[k],s.v⟩ else⟨s.I,s.R,s.v++ [l.I[k]]⟩:=rfl
  generalize lR l.R held s l.I[k]=s' at hB' hR' hq hS;generalize l.I[k]=f at hS hRk⊢;have hdec:decide (f∈s.R)=decide (f∈l.R):=decide_eq_decide.2 hRk;have hwl:=aDZ s.I f;refine cO (aBW held t f (by omega)) ?_;rw [atM];refine aC (λb3=>?_) (λb3=>?_)<;> try simp only [zD,zA,zE,zC,zF] at b3
  ·rw [b3,zct] at hS;subst hS;refine Wk ?_;rw [hw];refine⟨(k,s'),⟨⟨hB',hR'⟩,hq⟩,?_,by show k<k+1;omega⟩;exact Vw [some 0,some 1,some 2]
  rw [b3,zcf] at hS;refine cO (aBW s.R false f (by omega)) ?_;rw [atM,hdec];refine aC (λb4=>?_) (λb4=>?_)<;> try simp only [zD,zA,zE,zC,zF] at b4
  ·rw [b4,zct] at hS;refine Wk3 (aEG s.I false f (by omega)) (aEG s.R false f (by omega)) (aJV (wo s.I f) false f (by omega)) ?_;rw [hw];refine⟨(k,s'),⟨⟨hB',hR'⟩,hq⟩,?_,by show k<k+1;omega⟩;subst hS;exact Vw [some 0,some 1,some 2]
  rw [b4,zcf] at hS;refine Wk ?_;refine aG ((aA s.v).symm) (cA (by show(((aB s.v).length+1:Nat):Int)<=_;rw [aA];omega) (by show((aB s.v).length+1)*8<=_;rw [aA];omega) ?_);refine Wk ?_;rw [hw];refine⟨(k,s'),⟨⟨hB',hR'⟩,hq⟩,?_,by show k<k+1;omega⟩;subst hS;refine bU [some 0,some 1,some ?k298_2] rfl rfl ?h3_298 ?h4_298 ?h5_298 ?h6_298 ?h7_298
  case' h7_298=>repeat' (first |exact trivial |rfl |exact .inl rfl |exact .inr rfl |exact id |exact zbc |apply And.intro)
  case' h4_298=>rfl
  case' h6_298=>rfl
  case' h3_298=>repeat' (first |exact trivial |rfl |exact .inl rfl |exact .inr rfl |exact id |exact zbc |apply And.intro)
  case' h5_298=>repeat' (first |exact trivial |rfl |exact .inl rfl |exact .inr rfl |exact id |exact zbc |apply And.intro)
  ·exact fG s.v f
  ·show(aB s.v).length+1=_;rw [aA,zG];rfl
 rw [b2,zcf] at hq;subst hq;refine Wk ?_;refine⟨[],trivial,rfl,trivial,rfl,?_⟩
 try subst hk
 repeat' (first |exact trivial |rfl |exact .inl rfl |exact .inr rfl |exact id |exact zbc |apply And.intro)
 ·show 0+s.v.length<=_;rw [aA];omega
 ·exact dB (aA _)
open Go.Shelf
theorem pK(b:Nat)(ty:TypeId):∀(vs:List Value) (o:Nat) (w:World) (arr:Array Value),w.heap[b]? =some (.cells arr ty (0,0))->
 (w.setCells b o vs).heap[b]? =some (.cells (wrote arr o vs) ty (0,0))/\(w.setCells b o vs).heap.size=w.heap.size/\∀j,j≠b->(w.setCells b o vs).heap[j]? =w.heap[j]?
 | [],_,_,_,h=>⟨h,rfl,λ_ _=>rfl⟩
 |v::r,o,w,arr,h=>by
  have C:(w.setCell ⟨b,o,none⟩ v).heap[b]? =some (.cells (arr.setIfInBounds o v) ty (0,0)):=by unfold World.setCell;dsimp only;rw [zS,if_pos rfl,h];rfl
  have D:(w.setCell ⟨b,o,none⟩ v).heap.size=w.heap.size:=by unfold World.setCell;dsimp only;rw [Array.size_modify]
  have B:∀j,j≠b->(w.setCell ⟨b,o,none⟩ v).heap[j]? =w.heap[j]? :=λj f=>by unfold World.setCell;dsimp only;rw [zS,if_neg (λe=>f e.symm)]
  obtain⟨m,h2,z⟩:=pK b ty r (o+1) _ _ C;exact⟨m,h2.trans D,λj f=>(z j f).trans (B j f)⟩
theorem aR0(l:List Int)(i:Nat)(x:Int)(hi:i<=l.length)(arr:Array Value)(G:l.length+1<=arr.size)(D:∀(j:Nat) (u:Value),(dX l)[j]? =some u->arr[j]? =some u)(j:Nat)(u:Value)(e:(dX (iR l i x))[j]? =some u):
 (wrote (wrote arr (i+1) ((dX l).drop i)) i [.int .i64 x])[j]? =some u:=by
 have C:(dX l).length=l.length:=by simp [dX]
 have B:((dX l).drop i).length=l.length-i:=by rw [List.length_drop,C]
 rw [rK _ _ _ _ (by rw [oR];simp;omega),rK _ _ _ _ (by rw [B];omega),B];have m:dX (iR l i x)=(dX l).take i++Value.int .i64 x::(dX l).drop i:=by simp [dX,iR]
 rw [m,List.getElem?_append] at e;have H:((dX l).take i).length=i:=by rw [zJ,C];omega
 rw [H] at e;split at e
 ·rename_i f;rw [if_neg (by simp;omega),if_neg (by omega)];rw [List.getElem?_take,if_pos f] at e;exact D j u e
 ·rename_i F
  by_cases E:j=i
  ·subst E;rw [if_pos (by simp)];simpa using e
  ·have z:((dX l).drop i)[j- (i+1)]? =some u:=by rw [show j-i=(j- (i+1))+1 by omega,List.getElem?_cons_succ] at e;exact e
   obtain⟨f,-⟩:=List.getElem?_eq_some_iff.1 z;rw [B] at f;rw [if_neg (by simp;omega),if_pos (by omega)];exact z
theorem bKE(l:List Int)(i:Nat)(x:Int)(c:Nat)(hi:i<=l.length)(hc:l.length+1<=c)(aa:c<=9223372036854775807):
 aM Tryz.prog 287 [.row 1 (aB l),.row 1 [[.int .i64 x]]] [.slk 0 0 l.length c,.int .i64 i,.sl 1 0 1] (.sl 0 0 (l.length+1)) [.row 1 (aB (iR l i x)),.row 1 [[.int .i64 x]]]:=by
 intro U σ w E hR hn B
 obtain⟨c0,c1,c2,rfl⟩:∃a b c,E= #[a,b,c]:=by
  rcases E with ⟨L⟩
  match L,hn with
  | [a,b,c],_=>exact⟨a,b,c,rfl⟩
 have a0:=B 0 _ c0 rfl rfl;have a1:=B 1 _ c1 rfl rfl;have a2:=B 2 _ c2 rfl rfl;generalize ap:l.length=ln at a0 hc⊢
 cases a0 with
 |slk0 h=>omega
 | @slk _ _ _ _ _ b es cap a K ay al ab=>
 subst ap
 cases a1 with
 |int=>
 cases a2 with
 | @sl _ _ _ _ W az O va hs a3 ha=>
 rw [Nat.sub_zero] at ab;subst ab;have N:=hR.obj 0 (.row 1 (aB l)) rfl;rw [K] at N;obtain⟨-,rfl,R,m,C,f,Q,G⟩:=N;have ae:=hR.obj 1 (.row 1 [[.int .i64 x]]) rfl;rw [hs] at ae;obtain⟨-,rfl,-,ah,ty,F,Z,J⟩:=ae;obtain⟨xv,ar,-,au⟩:=J 0 _ 0 _ rfl rfl
 cases au with
 |int=>
 obtain rfl:=ha (by omega);obtain rfl:=al (by omega);have aq:W≠b:=by rintro rfl;have :=hR.inj 0 1 _ _ W _ _ _ _ rfl rfl K hs;cases this
 rw [Nat.mul_one] at Z Q
 have ag:∀(j:Nat) (v:Value),([Value.int .i64 x])[j]? =some v->w.cell? ⟨W,0*1+j,none⟩=some v:=λj v D=>by
  cases j with
  |zero=> simp only [zQ,zse] at D;subst D;rw [World.cell?,F];simpa using ar
  |succ j=>simp at D
 have M:∀(j:Nat) (u:Value),(dX l)[j]? =some u->m[j]? =some u:=λj u D=>by
  simp only [dX,zU,zR] at D;obtain⟨y,T,rfl⟩:=D;obtain⟨v,q1,-,q3⟩:=G j [.int .i64 y] 0 (.int .i64 y) (by simp [aB,T]) rfl;cases q3
  simpa using q1
 have ao:∀(j:Nat) (v:Value),(dX l)[j]? =some v->w.cell? ⟨b,0*1+j,none⟩=some v:=λj v D=>by rw [World.cell?,f];simpa using M j v D
 have af:∀j,j<l.length+1->(w.cell? ⟨b,0*1+j,none⟩).isSome=true:=λj D=>by rw [World.cell?,f];simp only [zV,zW];rw [Array.getElem?_eq_getElem (by omega)];rfl
 have ad:∀o,w.frozen? ⟨b,o,none⟩=false:=λo=>by rw [World.frozen?,f];simp [mkF]
 have ac:∀o,w.frozen? ⟨W,o,none⟩=false:=λo=>by rw [World.frozen?,F];simp [mkF]
 have one:∀v∈dX l,v.oneCell'=true:=λv hv=>by simp only [dX,List.mem_map] at hv;obtain⟨y,-,rfl⟩:=hv;rfl
 have Y:∀(H:World),H.os=w.os->H.tape=w.tape->H.output=w.output->H.heap.size=w.heap.size->(∀j,j≠b->H.heap[j]? =w.heap[j]?)->H.heap[b]? =some (.cells (wrote (wrote m (i+1) ((dX l).drop i)) i [.int .i64 x]) C.1 (0,0))->
  ∃cv σ',(Ending.returned (.slice (some ⟨b,0*1,none⟩) (l.length+1) c))=.returned cv/\aV U σ' (aI 0 [.row 1 (aB (iR l i x)),.row 1 [[.int .i64 x]]]) H 2/\VR (Own U σ' (aI 0 [.row 1 (aB (iR l i x)),.row 1 [[.int .i64 x]]])) H σ' (.sl 0 0 (l.length+1)) cv/\
   bP σ (aI 0 [.row 1 (aB l),.row 1 [[.int .i64 x]]]) w 2 σ' (aI 0 [.row 1 (aB (iR l i x)),.row 1 [[.int .i64 x]]]) H 2:=λH e1 e2 e3 e4 e5 e6=>by
  obtain⟨g,r⟩:=hR.write (k:=0) (o0:=.row 1 (aB l)) (o:=.row 1 (aB (iR l i x))) rfl K e1 e2 e3 e4 e5 (λg=>by
   refine⟨λy T=>?_,rfl,⟨by rw [aA,mN];omega,R.2⟩,_,C,e6,by rw [oR,oR];omega,λj y k u T hu=>?_⟩
   ·simp only [aB,List.mem_map] at T;obtain⟨z,-,rfl⟩:=T;rfl
   ·simp only [aB,zU,zR] at T;obtain⟨z,hz,rfl⟩:=T
    cases k with
    |succ k=>simp at hu
    |zero=> simp only [zQ,zse] at hu;subst hu;refine⟨.int .i64 z,?_,rfl,.int _ _⟩;rw [Nat.mul_one,Nat.add_zero];exact aR0 l i x hi m (by omega) M j _ (by simp [dX,hz]))
  exact⟨_,σ,rfl,r,.sl K (by omega) (λ_=>rfl),g⟩
 by_cases he:i=l.length
 ·subst he;refine(Any2.slices_Insert_int_end_room aLL b (0*1) l.length c W (0*1) 1 (O-0) [.int .i64 x] w (by omega) (by omega) aa rfl (λj D=>by rw [Nat.add_assoc];exact af _ (by omega)) (λj _=>ad _) ag (by simp [bDV])).mono ?_;rintro e H ⟨rfl,rfl⟩;obtain⟨h1,h2,h3⟩:=pK b C.1 [.int .i64 x] (0*1+l.length) w m f;obtain⟨o1,o2,o3⟩:=kT b [.int .i64 x] (0*1+l.length) w;refine Y _ o1 o2 o3 h2 h3 ?_;rw [h1,zV,zW,List.drop_of_length_le (by simp [dX])];rfl
 ·refine(Any2.slices_Insert_int_shift aLL b (0*1) l.length c i W (0*1) 1 (O-0) (dX l) [.int .i64 x] w (by omega) (by omega) (by omega) aa aq (by simp [dX]) rfl ao af (λj _=>ad _) ag one (by simp [bDV]) ty.1 C.1 ah.size m.size
   (by rw [World.shape?,F]) (by rw [World.shape?,f]) (by omega) (ac _) (ac _)).mono ?_
  rintro e H ⟨rfl,rfl⟩;have am:w.drew.heap[b]? =some (.cells m C.1 (0,0)):=f;obtain⟨h1,h2,h3⟩:=pK b C.1 ((dX l).drop i) (0*1+(i+1)) w.drew m am;obtain⟨o1,o2,o3⟩:=kT b ((dX l).drop i) (0*1+(i+1)) w.drew;obtain⟨ai,aj,ak⟩:=pK b C.1 [.int .i64 x] (0*1+i) _ _ h1;obtain⟨av,aw,ax⟩:=kT b [.int .i64 x] (0*1+i) (w.drew.setCells b (0*1+(i+1)) ((dX l).drop i));refine Y _ (av.trans o1) (aw.trans o2) (ax.trans o3) (aj.trans h2) (λj D=>(ak j D).trans (h3 j D)) ?_;rw [ai]
  simp only [zV,zW]
theorem bH0(l:Ls)(f:Int)(B:dM l):aM Tryz.prog 201 [] [.agg l.c,.int .i64 f] (.tup [.agg (nH l f).1.c,.int .i64 (nH l f).2]) []:=by
 have W:=B.a;have h2:=B.i;have Y:=B.r;refine eT (ob0:= []) [.v 35,.r 49] Tryz.func201 rfl rfl rfl rfl ?_;generalize j:nH l f=q;rw [nH] at j;refine Wk ?_;refine .inr ⟨λ_=>⟨[],_,_,_,bKB l B,trivial,rfl,rfl,rfl,?_⟩,(by intro h;cases h)⟩
 refine cO (bA8 l f B) ?_;refine aC (λH=>?_) (λH=>?_)<;> try simp only [zD,zA,zE,zC,zF] at H
 ·rw [<-aF0 (λe=>(l,e)) _ H] at j;subst j;refine Wk ?_;refine⟨[],trivial,rfl,trivial,rfl,?_⟩
  try subst j
  repeat' (first |exact trivial |rfl |exact .inl rfl |exact .inr rfl |exact id |exact zbc |apply And.intro)
  ·show 0+l.R.length<=_;rw [aA];omega
  ·exact dB (aA _)
 obtain⟨e1,N⟩:=aQ2 H;have M:=(bF l).1 e1;rw [e1,N] at j;simp only [zK,zcf] at j;refine cO (bA9 l f B) ?_;refine aC (λJ=>?_) (λJ=>?_)<;> try simp only [zD,zA,zE,zC,zF] at J
 ·rw [show(!mL l f)=true by rw [J];rfl,zct] at j;subst j;refine Wk ?_;refine⟨[],trivial,rfl,trivial,rfl,?_⟩
  try subst j
  repeat' (first |exact trivial |rfl |exact .inl rfl |exact .inr rfl |exact id |exact zbc |apply And.intro)
  ·show 0+l.R.length<=_;rw [aA];omega
  ·exact dB (aA _)
 rw [show(!mL l f)=false by rw [J];rfl,zcf] at j;have G:aM Tryz.prog 286 [] [.lst 1 false (((aB l.R).drop 0).take l.R.length),.int .i64 f] (.tup [.int .i64 (fM l.R f),.bool (aD5 l.R f)]) []:=by rw [dB (aA l.R)];exact bHG l.R false f (by omega) M.asc
 have m:=aLF M.asc f;have C:=aAI l.R f;refine Wk ?_;refine .inl ⟨_,λ_=>⟨?_,G⟩,.inr rfl,?_⟩
 ·intro v D;have D:v∈ [V.sl 2 0 l.R.length,V.int .i64 f]:=D;rcases List.mem_cons.1 D with rfl |D
  ·show 0+l.R.length<=(aB l.R).length;rw [aA];omega
  ·obtain rfl:=List.mem_singleton.1 D;exact trivial
 refine Wk ?_;refine aC (λz=>?_) (λz=>?_)<;> try simp only [zD,zA,zE,zC,zF] at z
 ·have z:f∉l.R:=by rw [<-m];simpa using z
  rw [show(!decide (f∈l.R))=true by simpa using z,zct] at j;refine Wk ?_
  refine⟨Option Nat,λ|none=>True |some c=>l.R.length+1<=c/\c<=9223372036854775807,
   fun |none=>⟨[(1,⟨[],true,.int .i64 f⟩),(4,⟨[],true,.ptr 0 0 0⟩),(6,⟨[],true,.ptr 1 0 0⟩),(8,⟨[],true,.int .i64 (fM l.R f:Int)⟩),(35,⟨[],true,.lst 1 true (aB l.R)⟩)],[(0,.box [.lst 0 true [],.lst 0 true [],.lst 0 true []]),(1,.box [.lst 1 false (aB l.A),.lst 1 false (aB l.I),.lst 1 false (aB l.R)])],2⟩
       |some c=>⟨[(1,⟨[],true,.int .i64 f⟩),(4,⟨[],true,.ptr 0 0 0⟩),(6,⟨[],true,.ptr 1 0 0⟩),(8,⟨[],true,.int .i64 (fM l.R f:Int)⟩),(35,⟨[],true,.slk 2 0 l.R.length c⟩)],[(0,.box [.lst 0 true [],.lst 0 true [],.lst 0 true []]),(1,.box [.lst 1 false (aB l.A),.lst 1 false (aB l.I),.sl 2 0 l.R.length]),(2,.row 1 (aB l.R))],3⟩,?_,λx O=>?_⟩
  ·refine Wk ?_;intro c Z E
   by_cases F:c=l.R.length
   ·subst F;refine⟨none,trivial,?_⟩;refine bU [some 1,some 18] rfl rfl ?_ rfl ?_ rfl ?_
    repeat' (first |exact trivial |rfl |exact .inl rfl |exact .inr rfl |exact id |exact zbc |apply And.intro)
    ·show 0+l.R.length<=_;rw [aA];omega
    ·exact dB (aA _)
    ·exact λ_=>rfl
    ·show 0+l.R.length<=_;rw [aA];omega
    ·exact dB (aA _)
   refine⟨some c,⟨by omega,E⟩,?_⟩;exact Vw [some 1,some 18,some 2]
  cases x with
  |none=>
   refine Wk ?_;refine .inr ⟨λ_=>⟨[2],_,_,_,bHH l.R (fM l.R f) f C (by omega),⟨rfl,trivial⟩,rfl,rfl,rfl,?_⟩,(by intro h;cases h)⟩
   subst j;refine Wk ?_
   try subst j
   exact Lf
  |some c=>
   obtain⟨Q,T⟩:=O;refine Wk ?_;refine .inr ⟨λ_=>⟨[2,3],_,_,_,bKE l.R (fM l.R f) f c C Q T,⟨rfl,rfl,trivial⟩,rfl,rfl,rfl,?_⟩,(by intro h;cases h)⟩
   subst j;refine Wk ?_;refine⟨[],trivial,rfl,trivial,rfl,?_⟩
   try subst j
   repeat' (first |exact trivial |rfl |exact .inl rfl |exact .inr rfl |exact id |exact zbc |apply And.intro)
   ·show 0+(l.R.length+1)<=_;rw [aA,mN];omega
   ·exact dB (by rw [aA,mN])
 have z:f∈l.R:=by rw [<-m];simpa using z
 rw [show(!decide (f∈l.R))=false by simpa using z,zcf] at j;refine cO (aOV l.I false f (by omega)) ?_;refine aC (λK=>?_) (λK=>?_)<;> try simp only [zD,zA,zE,zC,zF] at K
 ·rw [K,zct] at j;subst j;refine Wk ?_;refine⟨Unit,λ_=>True,λ_=>⟨[(1,⟨[],true,.int .i64 f⟩),(4,⟨[],true,.ptr 0 0 0⟩),(6,⟨[],true,.ptr 1 0 0⟩)],[(0,.box [.lst 0 true [],.lst 0 true [],.lst 0 true []]),(1,.box [.lst 1 false (aB l.A),.lst 1 false (aB (wo l.I f)),.lst 1 false (aB l.R)])],2⟩,?_,λ_ _=>?_⟩
  ·refine cO (aEH l.I false f (by omega)) ?_;refine⟨(),trivial,?_⟩;refine bU [some 1,some 18] rfl rfl ?_ rfl ?_ rfl ?_
   repeat' (first |exact trivial |rfl |exact .inl rfl |exact .inr rfl |exact id |exact zbc |apply And.intro)
   ·show 0+l.R.length<=_;rw [aA];omega
   ·exact dB (aA _)
  refine Wk2 (aJW l.A false f (by omega)) (aEH l.R false f (by omega)) ?_
  try subst j
  exact Lf
 rw [K,zcf] at j;subst j;refine Wk ?_;refine⟨[],trivial,rfl,trivial,rfl,?_⟩
 try subst j
 repeat' (first |exact trivial |rfl |exact .inl rfl |exact .inr rfl |exact id |exact zbc |apply And.intro)
 ·show 0+l.R.length<=_;rw [aA];omega
 ·exact dB (aA _)
end Go.Proofs.YtmhapcbjjpadnaaGreat
