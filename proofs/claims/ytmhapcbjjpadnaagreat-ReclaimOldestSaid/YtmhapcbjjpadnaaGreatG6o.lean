/- Caches. -/
import Derived.Test.YtmhapcbjjpadnaaGreatG5o
import Derived.Test.YtmhapcbjjpadnaaGreatG4o
import Derived.Test.YtmhapcbjjpadnaaGreatG3o
set_option linter.all false
set_option maxHeartbeats 1000000
set_option maxRecDepth 40000
open Array renaming getElem?_modify→zP
open Bool renaming cond_false_right→zA,not_eq_false'→zC,cond_true_left→zD,not_eq_true'→zE,not_not→zF,or_eq_false_iff→zG,not_true→zQ
open List renaming length_append→zH,take_succ_eq_append_getElem→zI,getElem_of_mem→zJ,filter_sublist→zK,getElem_mem→zL,take_length→zM,getElem?_cons_zero→zN,append_assoc→zR,getElem?_map→zS,length_take→zV
open Nat renaming zero_mul→zT,zero_add→zU,le_refl→zW
open Option renaming map_eq_some_iff→zO
namespace Go.Proofs.YtmhapcbjjpadnaaGreat
open Go Go.Sk Go.RowKit
def lO(l:Ls)(f:Int):Bool:=decide (f∈l.A)||decide (f∈l.I)
theorem aXN(l:Ls)(f:Int)(e:eD l):aN Tryz.prog 240 [] [.agg l.c,.int .i64 f] (.bool (lO l f)) []:=by have j:=e.a;have h2:=e.i;refine cG Tryz.func240 ?_;refine Wk2 (aMP l.A false f (by omega)) (aMP l.I false f (by omega)) ?_;exact Lf
theorem aXH(l:Ls)(f:Int)(e:eD l):aN Tryz.prog 203 [] [.agg l.c,.int .i64 f] (.bool (lO l f)) []:=by have j:=e.a;have h2:=e.i;refine cG Tryz.func203 ?_;refine Wk2 (aID l.A false f (by omega)) (aID l.I false f (by omega)) ?_;rw [atM,atM];exact Lf
def lF(l:Ls)(f:Int):Int:=bif !dM l then 1 else bif !cE f then 2 else 0
theorem aXM(l:Ls)(f:Int)(z:eD l):aN Tryz.prog 239 [] [.agg l.c,.int .i64 f] (.int .i64 (lF l f)) []:=by
 refine cG Tryz.func239 ?_;generalize e:lF l f=q;rw [lF] at e;refine cS (aRC l z) ?_;refine aC (λj=>?_) (λj=>?_)<;> try simp only [zD,zA,zE,zC,zF] at j
 ·rw [show(!dM l)=true by rw [j];rfl] at e;have e:1=q:=e;subst e;refine Wk ?_
  try subst e
  exact Lf
 rw [show(!dM l)=false by rw [j];rfl,zcf] at e;refine cS (bEX f) ?_;refine aC (λm=>?_) (λm=>?_)<;> try simp only [zD,zA,zE,zC,zF] at m
 ·rw [show(!cE f)=true by rw [m];rfl] at e;have e:2=q:=e;subst e;refine Wk ?_
  try subst e
  exact Lf
 rw [show(!cE f)=false by rw [m];rfl] at e;have e:0=q:=e;subst e;refine Wk ?_
 try subst e
 exact Lf
def aRZ(a b:Ls):Bool:=(decide (a.A=b.A)&&decide (a.I=b.I))&&decide (a.R=b.R)
theorem bPW(a b:Ls)(e:eD a)(f:eD b):aN Tryz.prog 94 [] [.agg a.c,.agg b.c] (.bool (aRZ a b)) []:=by
 have B:=e.a;have h2:=e.i;have C:=e.r;have j:=f.a;have m:=f.i;have z:=f.r;refine cG Tryz.func94 ?_;refine Wk3 (bBG a.A b.A false false (by omega) (by omega)) (bBG a.I b.I false false (by omega) (by omega)) (bBG a.R b.R false false (by omega) (by omega)) ?_;refine⟨[],trivial,rfl,trivial,rfl,?_⟩
 repeat' (first |exact trivial |rfl |exact .inl rfl |exact .inr rfl |exact id |exact zbc |apply And.intro)
 unfold aRZ;cases decide (a.A=b.A)<;> cases decide (a.I=b.I)<;> rfl
def aV2(fr:List Int->List Int)(l:Ls)(f:Int)(act:Bool):Ls×Int:=
 bif !dM l then(l,1) else bif !cE f then(l,2) else bif lO l f then(l,5) else
 bif act then(⟨fr l.A,l.I,l.R⟩,0) else(⟨l.A,fr l.I,l.R⟩,0)
def aSP(l:Ls)(f:Int)(act:Bool):Ls×Int:=aV2 (λx=>f::wo x f) l f act
def aB6(l:Ls)(f:Int)(act:Bool):Ls×Int:=aV2 (λx=>f::x) l f act
theorem bLP(l:Ls)(f:Int)(j:Bool)(z:eD l):aN Tryz.prog 149 [] [.agg l.c,.int .i64 f,.bool j] (.tup [.agg (aSP l f j).1.c,.int .i64 (aSP l f j).2]) []:=by
 have E:=z.a;have h2:=z.i;have F:=z.r;refine cG Tryz.func149 ?_;generalize e:aSP l f j=q;rw [aSP,aV2] at e;refine Wk2 (aMQ l z) (aXM l f z) ?_;refine aC (λm=>?_) (λm=>?_)<;> try simp only [zD,zA,zE,zC,zF] at m
 ·have e:(l,lF l f)=q:=by rw [<-e];unfold lF;unfold lF at m;revert m;cases dM l <;> cases cE f <;> intro m <;> first |rfl |exact absurd m (by decide)
  subst e;refine Wk ?_
  try subst e
  exact Lf
 have e1:dM l=true:=by unfold lF at m;cases h:dM l <;> simp [h] at m⊢
 have D:cE f=true:=by unfold lF at m;cases h:cE f <;> simp [h,e1] at m⊢
 rw [e1,D] at e;simp only [zQ,zcf] at e;refine cS (aXN l f z) ?_;refine aC (λB=>?_) (λB=>?_)<;> try simp only [zD,zA,zE,zC,zF] at B
 ·rw [B,zct] at e;subst e;refine Wk ?_
  try subst e
  exact Lf
 rw [B,zcf] at e;refine Wk ?_;refine aC (λC=>?_) (λC=>?_)<;> try simp only [zD,zA,zE,zC,zF] at C
 ·rw [C,zct] at e;subst e;refine cS (aIE l.A false f (by omega)) ?_
  try subst e
  exact Lf
 rw [C,zcf] at e;subst e;refine cS (aIE l.I false f (by omega)) ?_
 try subst e
 exact Lf
theorem aBN(f:Int):(bif decide (f<1) then true else decide (64<f))= !cE f:=by rw [<-aMA];rfl
theorem bLG(l:Ls)(f:Int)(j:Bool)(m:eD l):aN Tryz.prog 119 [] [.agg l.c,.int .i64 f,.bool j] (.tup [.agg (aB6 l f j).1.c,.int .i64 (aB6 l f j).2]) []:=by
 have E:=m.a;have h2:=m.i;have F:=m.r;refine cG Tryz.func119 ?_;generalize e:aB6 l f j=q;rw [aB6,aV2] at e;refine cS (aXF l m) ?_;refine aC (λz=>?_) (λz=>?_)<;> try simp only [zD,zA,zE,zC,zF] at z
 ·rw [show(!dM l)=true by rw [z];rfl,zct] at e;subst e;refine Wk ?_
  try subst e
  exact Lf
 rw [show(!dM l)=false by rw [z];rfl,zcf] at e;refine Wk ?_;rw [aBN];refine aC (λB=>?_) (λB=>?_)<;> try simp only [zD,zA,zE,zC,zF] at B
 ·rw [show(!cE f)=true by rw [B];rfl,zct] at e;subst e;refine Wk ?_
  try subst e
  exact Lf
 rw [show(!cE f)=false by rw [B];rfl,zcf] at e;refine cS (aXH l f m) ?_;refine aC (λC=>?_) (λC=>?_)<;> try simp only [zD,zA,zE,zC,zF] at C
 ·rw [C,zct] at e;subst e;refine Wk ?_
  try subst e
  exact Lf
 rw [C,zcf] at e;refine Wk ?_;refine aC (λD=>?_) (λD=>?_)<;> try simp only [zD,zA,zE,zC,zF] at D
 ·rw [D,zct] at e;subst e;refine cS (aXG l.A false f (by omega)) ?_
  try subst e
  exact Lf
 rw [D,zcf] at e;subst e;refine cS (aXG l.I false f (by omega)) ?_
 try subst e
 exact Lf
def kE(l:Ls)(f:Int):Ls×Int:= bif !dM l then(l,1) else bif !cE f then(l,2) else bif !lO l f then(l,4) else(⟨wo l.A f,wo l.I f,wo l.R f⟩,0)
theorem aDA {l:Ls} {f:Int} {α:Type} (a:Int->α)(b:α)(e:(lF l f != 0)=true):a (lF l f)=bif !dM l then a 1 else bif !cE f then a 2 else b:=by unfold lF at e⊢;revert e;cases dM l <;> cases cE f <;> intro e <;> first |rfl |exact absurd e (by decide)
theorem aNT {l:Ls} {f:Int} (e:(lF l f != 0)=false):dM l=true/\cE f=true:=by unfold lF at e;revert e;cases dM l <;> cases cE f <;> intro e <;> first |exact⟨rfl,rfl⟩|exact absurd e (by decide)
theorem bEO(l:Ls)(f:Int)(m:eD l):aN Tryz.prog 245 [] [.agg l.c,.int .i64 f] (.tup [.agg (kE l f).1.c,.int .i64 (kE l f).2]) []:=by
 have D:=m.a;have h2:=m.i;have E:=m.r;refine cG Tryz.func245 ?_;generalize j:kE l f=q;rw [kE] at j;refine cS (aXM l f m) ?_;refine aC (λz=>?_) (λz=>?_)<;> try simp only [zD,zA,zE,zC,zF] at z
 ·rw [<-aDA (λe=>(l,e)) _ z] at j;subst j;refine cS (aMQ l m) ?_
  try subst j
  exact Lf
 obtain⟨e1,C⟩:=aNT z;rw [e1,C] at j;simp only [zQ,zcf] at j;refine cS (aXN l f m) ?_;refine aC (λB=>?_) (λB=>?_)<;> try simp only [zD,zA,zE,zC,zF] at B
 ·rw [show(!lO l f)=true by rw [B];rfl,zct] at j;subst j;refine cS (aMQ l m) ?_
  try subst j
  exact Lf
 rw [show(!lO l f)=false by rw [B];rfl,zcf] at j;subst j;refine Wk3 (aCR l.A false f (by omega)) (aCR l.I false f (by omega)) (aCR l.R false f (by omega)) ?_
 try subst j
 exact Lf
theorem bMI(l:Ls)(f:Int)(j:eD l):aN Tryz.prog 249 [] [.agg l.c,.int .i64 f] (.tup [.agg (kE l f).1.c,.int .i64 (kE l f).2]) []:=by
 have C:=j.a;have h2:=j.i;have D:=j.r;refine cG Tryz.func249 ?_;generalize e:kE l f=q;rw [kE] at e;refine cS (aXF l j) ?_;refine aC (λm=>?_) (λm=>?_)<;> try simp only [zD,zA,zE,zC,zF] at m
 ·rw [show(!dM l)=true by rw [m];rfl,zct] at e;subst e;refine Wk ?_
  try subst e
  exact Lf
 rw [show(!dM l)=false by rw [m];rfl,zcf] at e;refine Wk ?_;rw [aBN];refine aC (λz=>?_) (λz=>?_)<;> try simp only [zD,zA,zE,zC,zF] at z
 ·rw [show(!cE f)=true by rw [z];rfl,zct] at e;subst e;refine Wk ?_
  try subst e
  exact Lf
 rw [show(!cE f)=false by rw [z];rfl,zcf] at e;refine cS (aXH l f j) ?_;refine aC (λB=>?_) (λB=>?_)<;> try simp only [zD,zA,zE,zC,zF] at B
 ·rw [show(!lO l f)=true by rw [B];rfl,zct] at e;subst e;refine Wk ?_
  try subst e
  exact Lf
 rw [show(!lO l f)=false by rw [B];rfl,zcf] at e;subst e;refine Wk3 (aMO l.A false f (by omega)) (aMO l.I false f (by omega)) (aMO l.R false f (by omega)) ?_
 try subst e
 exact Lf
structure gT(l:Ls):Prop where
 nodup:(l.A++l.I).Nodup
 known:∀f∈l.A++l.I,1<=f/\f<=64
 asc:l.R.Pairwise (·< ·)
 sub:∀f∈l.R,f∈l.A++l.I
theorem pX(f:Int):cE f=true↔1<=f/\f<=64:=by simp [cE]
theorem aO8 {l:List Int} (step:∀i,i+1<l.length->l.getD i 0<l.getD (i+1) 0):l.Pairwise (·< ·):=by
 have f:∀d i,i+d+1<l.length->l.getD i 0<l.getD (i+d+1) 0:=λd=>by
  induction d with
  |zero=>exact λi e=>step i e
  |succ d z=> intro i e;have B:=z i (by omega);have h2:=step (i+d+1) (by omega);rw [show i+(d+1)+1=i+d+1+1 by omega];omega
 refine List.pairwise_iff_getElem.2 λi j e C m=>?_;rw [fI,fI];have :=f (j-i-1) i (by omega)
 rwa [show i+(j-i-1)+1=j by omega] at this
theorem bX(l:Ls):dM l=true↔gT l:=by
 rw [dM,Bool.and_eq_true];generalize z:l.A++l.I=B;constructor
 ·rintro ⟨F,h2⟩;refine⟨?_,?_,?_,?_⟩
  ·rw [z];refine List.pairwise_iff_getElem.2 λi j m C K e=>?_;have :=kW C F;simp only [aDC,zG,zdn] at this;refine this.2 ?_;rw [<-fI B j C,<-e];rw [List.mem_take_iff_getElem];exact⟨i,by omega,rfl⟩
  ·rw [z];intro f D;obtain⟨i,m,rfl⟩:=zJ D;have :=kW m F;simp only [aDC,zG,zC] at this;rw [fI B i m];exact(pX _).1 this.1
  ·refine aO8 λi m=>?_;have :=kW m h2;simp only [aEQ,zG,Bool.and_eq_false_iff,zdn] at this;have J:=this.2;rw [Nat.add_sub_cancel] at J;omega
  ·rw [z];intro f D;obtain⟨i,m,rfl⟩:=zJ D;have :=kW m h2;simp only [aEQ,zG,zC,decide_eq_true_eq] at this;rw [fI l.R i m];exact this.1
 ·intro h;have H:=h.nodup;have G:=h.known;have E:=h.sub;rw [z] at H G E;refine⟨rF λi m=>?_,rF λi m=>?_⟩
  ·simp only [aDC,zG,zC,zdn];rw [<-fI B i m];refine⟨(pX _).2 (G _ (zL m)),λM=>?_⟩;obtain⟨j,C,e⟩:=zJ M;rw [zV] at C;rw [List.getElem_take] at e;exact List.pairwise_iff_getElem.1 H j i (by omega) m (by omega) e
  ·simp only [aEQ,zG,zC,decide_eq_true_eq]
   first |refine aG (by rw [<-fI l.R i m];exact E _ (zL m)) ?_ |refine⟨by rw [<-fI l.R i m];exact E _ (zL m),?_⟩
   by_cases e:i=0
   ·simp [e]
   ·have :=kY h.asc (i-1) i (by omega) m;rw [show decide (l.R.getD i 0<=l.R.getD (i-1) 0)=false by rw [zdn];omega,Bool.and_false]
theorem aPQ {l:List Int} (h:l.Nodup) {x:Int} (f:x∈l):(wo l x).length+1=l.length:=by have e:=List.Nodup.erase_eq_filter h x;rw [wo,<-e,List.length_erase_of_mem f];have :=List.length_pos_of_mem f;omega
theorem uG:∀(n:Nat) {l:List Int} {lo:Int},l.Nodup->(∀x∈l,lo<=x/\x<lo+n)->l.length<=n
 |0,[],_,_,_=>zW 0
 |0,x::r,lo,_,h=>by have :=h x (by simp);omega
 |n+1,l,lo,j,h=>by
  have e:(wo l (lo+n)).Nodup:=j.sublist zK;have :=uG n (l:=wo l (lo+n)) (lo:=lo) e λx z=>by obtain⟨m,h2⟩:=dO.1 z;have :=h x m;omega
  by_cases f:(lo+n)∈l
  ·have :=aPQ j f;omega
  ·rw [rN f] at this;omega
theorem gT.len {l:Ls} (h:gT l):(l.A++l.I).length<=64:=uG 64 (lo:=1) h.nodup λx e=>by have :=h.known x e;omega
theorem gT.lenR {l:Ls} (h:gT l):l.R.length<=64:=uG 64 (lo:=1) (h.asc.imp λh=>by omega) λx e=>by have :=h.known x (h.sub x e);omega
theorem gT.small {l:Ls} (h:gT l):eD l:=by have :=h.len;have :=h.lenR;rw [zH] at *;exact⟨by omega,by omega,by omega⟩
theorem gT.notA {l:Ls} (h:gT l) {f:Int} (e:f∈l.I):f∉l.A:=λj=>(List.nodup_append.1 h.nodup).2.2 f j f e rfl
theorem gT.notI {l:Ls} (h:gT l) {f:Int} (e:f∈l.A):f∉l.I:=λj=>h.notA j e
theorem aGY {l:List Int} (h:l.Nodup)(x:Int):(wo l x).Nodup:=h.sublist zK
theorem aKP {l:List Int} (h:l.Pairwise (·< ·))(x:Int):(wo l x).Pairwise (·< ·):=h.sublist zK
def nM(l:Ls)(f:Int):Ls×Int:=
 bif !dM l then(l,1) else bif !cE f then(l,2) else bif !lO l f then(l,4) else
 bif !decide (f∈l.R) then(⟨l.A,l.I,gX l.R (fB l.R f) f⟩,0) else bif decide (f∈l.I) then(⟨f::wo l.A f,wo l.I f,wo l.R f⟩,0) else(l,0)
theorem bPZ(l:Ls)(f:Int)(m:eD l):aN Tryz.prog 99 [] [.agg l.c,.int .i64 f] (.tup [.agg (nM l f).1.c,.int .i64 (nM l f).2]) []:=by
 have F:=m.a;have h2:=m.i;have G:=m.r;refine cG Tryz.func99 ?_;generalize e:nM l f=q;rw [nM] at e;refine cS (aXF l m) ?_;refine aC (λz=>?_) (λz=>?_)<;> try simp only [zD,zA,zE,zC,zF] at z
 ·rw [show(!dM l)=true by rw [z];rfl,zct] at e;subst e;refine Wk ?_
  try subst e
  exact Lf
 have E:=(bX l).1 z;rw [show(!dM l)=false by rw [z];rfl,zcf] at e;refine Wk ?_;rw [aBN];refine aC (λC=>?_) (λC=>?_)<;> try simp only [zD,zA,zE,zC,zF] at C
 ·rw [show(!cE f)=true by rw [C];rfl,zct] at e;subst e;refine Wk ?_
  try subst e
  exact Lf
 rw [show(!cE f)=false by rw [C];rfl,zcf] at e;refine cS (aXH l f m) ?_;refine aC (λD=>?_) (λD=>?_)<;> try simp only [zD,zA,zE,zC,zF] at D
 ·rw [show(!lO l f)=true by rw [D];rfl,zct] at e;subst e;refine Wk ?_
  try subst e
  exact Lf
 rw [show(!lO l f)=false by rw [D];rfl,zcf] at e;refine cS (aID l.R false f (by omega)) ?_;rw [atN];refine aC (λj=>?_) (λj=>?_)<;> try simp only [zD,zA,zE,zC,zF] at j
 ·have j:f∉l.R:=by simpa using j
  rw [show(!decide (f∈l.R))=true by simpa using j,zct] at e;subst e;refine cS (bM5 l.R false f (by omega) j) ?_
  try subst e
  exact Lf
 have j:f∈l.R:=by simpa using j
 rw [show(!decide (f∈l.R))=false by simpa using j,zcf] at e;refine cS (aID l.I false f (by omega)) ?_;rw [atM];refine aC (λB=>?_) (λB=>?_)<;> try simp only [zD,zA,zE,zC,zF] at B
 ·rw [B,zct] at e;rw [rN (E.notA (by simpa using B))] at e;subst e;refine Wk3 (aXG l.A false f (by omega)) (aMO l.I false f (by omega)) (aMO l.R false f (by omega)) ?_
  try subst e
  exact Lf
 rw [B,zcf] at e;subst e;refine Wk ?_
 try subst e
 exact Lf
def fC(l:Ls):Int:=l.A.getD (l.A.length-1) 0
def rR(l:Ls):List Int:=l.A.take (l.A.length-1)
def aH4(l:Ls):Ls:=bif decide (fC l∈l.R) then⟨fC l::rR l,l.I,wo l.R (fC l)⟩ else⟨rR l,fC l::l.I,l.R⟩
def aA1:Nat->Ls->Ls
 |0,l=>l
 |n+1,l=>bif decide ((l.A.length:Int)<=(l.I.length:Int)) then l else aA1 n (aH4 l)
def pL(l:Ls):Ls:=bif !dM l then l else aA1 l.A.length l
theorem aPR {l:Ls} (h:0<l.A.length):l.A=rR l++ [fC l]:=by have :=zI (l:=l.A) (i:=l.A.length-1) (by omega);rw [show l.A.length-1+1=l.A.length by omega,zM,fI _ _ (by omega)] at this;exact this
theorem aHH {l:Ls} (h:0<l.A.length):((aH4 l).A++(aH4 l).I).Perm (l.A++l.I):=by
 have e:=aPR h;unfold aH4
 cases decide (fC l∈l.R) with
 |true=>
  simp only [zct]
  conv=>rhs;rw [e]
  exact List.Perm.append_right _ (List.perm_append_comm (l₁:= [fC l]))
 |false=>
  simp only [zcf]
  conv=>rhs;rw [e]
  rw [zR];rfl
theorem gT.of_perm {l m:Ls} (h:gT l)(j:(m.A++m.I).Perm (l.A++l.I))(z:m.R.Pairwise (·< ·))(B:∀f∈m.R,f∈l.A++l.I):gT m:= ⟨j.nodup_iff.2 h.nodup,λf e=>h.known f (j.mem_iff.1 e),z,λf e=>j.mem_iff.2 (B f e)⟩
theorem gT.bal {l:Ls} (h:gT l)(e:0<l.A.length):gT (aH4 l):=by
 refine h.of_perm (aHH e) ?_ ?_
 ·unfold aH4
  cases decide (fC l∈l.R) with
  |true=>exact aKP h.asc _
  |false=>exact h.asc
 ·unfold aH4
  cases decide (fC l∈l.R) with
  |true=>exact λf j=>h.sub f (dO.1 j).1
  |false=>exact h.sub
theorem gT.fC {l:Ls} (h:gT l)(z:0<l.A.length):fC l∈l.A/\wo l.A (fC l)=rR l/\wo l.I (YtmhapcbjjpadnaaGreat.fC l)=l.I:=by
 have e:=aPR z;have j:YtmhapcbjjpadnaaGreat.fC l∈l.A:=by rw [e];simp
 have m:=h.nodup;rw [e,zR] at m;have f:=(List.nodup_append.1 m).2.2;refine⟨j,?_,rN (h.notI j)⟩;have B:YtmhapcbjjpadnaaGreat.fC l∉rR l:=λC=>f _ C _ (by simp) rfl;rw [show wo l.A (YtmhapcbjjpadnaaGreat.fC l)=wo (rR l++ [YtmhapcbjjpadnaaGreat.fC l]) (YtmhapcbjjpadnaaGreat.fC l) by rw [<-e]];rw [wo,List.filter_append];rw [show(rR l).filter (λy=>y != YtmhapcbjjpadnaaGreat.fC l)=rR l from rN B];simp
theorem bO6(l:Ls)(h:0<l.A.length):List.drop (Int.toNat 0) (List.take (((l.A.length-1:Nat):Int)).toNat (aB l.A))=aB (rR l):=by rw [Int.toNat_natCast,rR,aB,aB,List.map_take];rfl
theorem bMT(l:Ls)(N:eD l):aN Tryz.prog 282 [] [.agg l.c] (.agg (pL l).c) []:=by
 refine cG Tryz.func282 ?_;generalize j:pL l=q;rw [pL] at j;refine Wk2 (aMQ l N) (aRC l N) ?_;refine aC (λE=>?_) (λE=>?_)<;> try simp only [zD,zA,zE,zC,zF] at E
 ·rw [show(!dM l)=true by rw [E];rfl,zct] at j;subst j;refine Wk ?_
  try subst j
  exact Lf
 have M:=(bX l).1 E;rw [show(!dM l)=false by rw [E];rfl,zcf] at j;refine Wk ?_;rw [aA];generalize hn:l.A.length=n at j⊢;have T:n<=64:=by have :=M.len;rw [zH] at this;omega
 refine⟨Nat×Ls,λp=>(p.1<=n/\aA1 (n-p.1) p.2=q)/\gT p.2,λp=>⟨[(2,⟨[],true,.ptr 0 0 0⟩),(3,⟨[],true,.ptr 1 0 0⟩),(13,⟨[],true,.int .i64 (n:Int)⟩),(14,⟨[],true,.int .i64 (p.1:Int)⟩)],
  [(0,.box [.lst 0 true [],.lst 0 true [],.lst 0 true []]),(1,.box p.2.c)],2⟩,λp=>n-p.1,⟨(0,l),⟨⟨by simp,j⟩,M⟩,?_⟩,λp W=>?_⟩
 ·exact Vw [some 1,some 2]
 obtain⟨i,m⟩:=p;obtain⟨⟨J,e⟩,D⟩:=W;dsimp only at J e D⊢;have H:=D.len;rw [zH] at H;have Q:=D.lenR;refine Wk ?_;refine aC (λB=>?_) (λB=>?_)<;> try simp only [zD,zA,zE,zC,zF] at B
 ·have B:i<n:=by simp at B;omega
  obtain⟨k,j⟩:∃k,n-i=k+1:=⟨n-i-1,by omega⟩;rw [j,aA1] at e;have C:IntKind.i64.wrap ((i:Int)+1)=((i+1:Nat):Int):=by rw [aO (by omega) (by omega)];omega
  refine Wk ?_;rw [aA,aA];refine aC (λz=>?_) (λz=>?_)<;> try simp only [zD,zA,zE,zC,zF] at z
  ·rw [z,zct] at e;subst e;refine Wk ?_
   try subst j
   exact Lf
  rw [z,zcf] at e;have z:0<m.A.length:=by simp at z;omega
  obtain⟨l1,Y,Z⟩:=D.fC z;have G:m.A.getD (m.A.length-1) 0=fC m:=rfl;refine Wk ?_;rw [aA,aO (n:=(m.A.length:Int)-1) (by omega) (by omega),show((m.A.length:Int)-1)=((m.A.length-1:Nat):Int) by omega];refine aG (⟨rfl,by omega,by omega⟩) ?_;rw [cX m.A (m.A.length-1) (by omega),G];refine cS (aMP m.R false (fC m) (by omega)) ?_;have f:=D.bal z;have hS:aH4 m=bif decide (fC m∈m.R) then⟨fC m::rR m,m.I,wo m.R (fC m)⟩ else⟨rR m,fC m::m.I,m.R⟩:=rfl
  have F:k=n- (i+1):=by omega
  rw [F] at e;generalize aH4 m=O at f e hS;refine aC (λK=>?_) (λK=>?_)<;> try simp only [zD,zA,zE,zC,zF] at K
  ·rw [K,zct] at hS;refine Wk2 (aIE m.A false (fC m) (by omega)) (aCR m.R false (fC m) (by omega)) ?_;rw [Y,C];refine⟨(i+1,O),⟨⟨by show i+1<=n;omega,e⟩,f⟩,?_,by show n- (i+1)<n-i;omega⟩;subst hS;exact Vw [some 0,some 1]
  rw [K,zcf] at hS;refine Wk ?_;rw [aA,aO (n:=(m.A.length:Int)-1) (by omega) (by omega),show((m.A.length:Int)-1)=((m.A.length-1:Nat):Int) by omega];refine aG (⟨.inl rfl,Int.le_refl _,by omega,by omega⟩) ?_;rw [bO6 m z];refine cS (aIE m.I false (fC m) (by omega)) ?_;rw [Z,C];refine⟨(i+1,O),⟨⟨by show i+1<=n;omega,e⟩,f⟩,?_,by show n- (i+1)<n-i;omega⟩;subst hS;exact Vw [some 0,some 1]
 have B:i=n:=by simp at B;omega
 rw [B,Nat.sub_self] at e;have e:m=q:=e;subst e;refine Wk ?_
 try subst j
 exact Lf
structure ScS where
 I:List Int
 R:List Int
 v:List Int
def eR(R0 held:List Int)(s:ScS)(f:Int):ScS:= bif decide (f∈held) then s else bif decide (f∈R0) then⟨f::wo s.I f,wo s.R f,s.v⟩ else⟨s.I,s.R,s.v++ [f]⟩
def jD(R0 held:List Int)(n:Int):List Int->ScS->ScS
 | [],s=>s
 |f::r,s=>bif decide ((s.v.length:Int)<n) then jD R0 held n r (eR R0 held s f) else s
def lU(l:Ls)(n:Int)(held:List Int):Ls×List Int:=
 bif !dM l then(l,[]) else
 (⟨l.A,(jD l.R held n l.I.reverse ⟨l.I,l.R,[]⟩).I,(jD l.R held n l.I.reverse ⟨l.I,l.R,[]⟩).R⟩,(jD l.R held n l.I.reverse ⟨l.I,l.R,[]⟩).v)
theorem aYI {l:List Int} {k:Nat} (h:k<l.length):(l.take (k+1)).reverse=l[k]::(l.take k).reverse:=by rw [zI h,List.reverse_append];rfl
theorem aU6(l:List Int):(l.take l.length).reverse=l.reverse:=by rw [zM]
structure ScB(l:Ls)(k:Nat)(s:ScS):Prop where
 kk:k<=l.I.length
 i:s.I.length+k<=l.I.length+l.I.length
 r:s.R.length<=l.R.length
 v:s.v.length+k<=l.I.length
theorem ScB.next {l:Ls} {k:Nat} {s:ScS} (h:ScB l (k+1) s)(e held:List Int)(f:Int):ScB l k (eR e held s f):=by
 obtain⟨m,h2,j,h4⟩:=h;unfold eR
 cases decide (f∈held) with
 |true=>exact⟨by omega,by simp only [zct];omega,j,by simp only [zct];omega⟩
 |false=>
  cases decide (f∈e) with
  |true=> have :=aGX s.I f;have :=aGX s.R f;exact⟨by omega,by simp only [zct,zcf,List.length_cons];omega,by simp only [zct,zcf];omega,by simp only [zct,zcf];omega⟩
  |false=>exact⟨by omega,by simp only [zcf];omega,j,by simp only [zcf,zH,List.length_singleton];omega⟩
theorem bMU(l:Ls)(n:Int)(held:List Int)(t:Bool)(hl:eD l)(hh:held.length<=100000):aN Tryz.prog 283 [] [.agg l.c,.int .i64 n,.lst 1 t (aB held)] (.tup [.agg (lU l n held).1.c,.lst 1 false (aB (lU l n held).2)]) []:=by
 refine cG Tryz.func283 ?_;generalize hk:lU l n held=q;rw [lU] at hk;refine Wk2 (aMQ l hl) (aRC l hl) ?_;refine aC (λc1=>?_) (λc1=>?_)<;> try simp only [zD,zA,zE,zC,zF] at c1
 ·rw [show(!dM l)=true by rw [c1];rfl,zct] at hk;subst hk;refine Wk ?_
  try subst hk
  exact Lf
 have hP:=(bX l).1 c1;rw [show(!dM l)=false by rw [c1];rfl,zcf] at hk;have hml:=hP.len;rw [zH] at hml;have hmr:=hP.lenR;refine Wk ?_;rw [aA]
 refine⟨Nat×List (List Int×V),λp=>p.1<=held.length/\∀f,eP p.2 [f] (.bool false)=.bool (decide (f∈held.take p.1)),λp=>⟨[(1,⟨[],true,.int .i64 n⟩),(3,⟨[],true,.ptr 0 0 0⟩),(6,⟨[],true,.ptr 1 0 0⟩),(8,⟨[],true,.ptr 2 0 0⟩),(9,⟨[],true,.mp 3⟩),(22,⟨[],true,.lst 1 t (aB held)⟩),(23,⟨[],true,.int .i64 (held.length:Int)⟩),(24,⟨[],true,.int .i64 (p.1:Int)⟩)],
  [(0,.box l.c),(1,.box [.lst 0 true [],.lst 0 true [],.lst 0 true []]),(2,.box l.c),(3,.mp (1,p.2))],4⟩,λp=>held.length-p.1,⟨(0,[]),⟨by simp,λf=>by simp [eP]⟩,?_⟩,λp hp=>?_⟩
 ·exact Vw [some 0,some 1,some 2,some 3]
 obtain⟨i,M⟩:=p;obtain⟨hp1,hM⟩:=hp;dsimp only at hp1 hM⊢;refine Wk ?_;refine aC (λb1=>?_) (λb1=>?_)<;> try simp only [zD,zA,zE,zC,zF] at b1
 ·have b1:i<held.length:=by simp at b1;omega
  have hi1:IntKind.i64.wrap ((i:Int)+1)=((i+1:Nat):Int):=by rw [aO (by omega) (by omega)];omega
  refine Wk ?_;refine aG (⟨rfl,by omega,by rw [aA];omega⟩) ?_;rw [cX held i b1];have hmem:∀y,y∈held.take (i+1)↔y∈held.take i\/y=held.getD i 0:=λy=>by rw [zI b1,List.mem_append,List.mem_singleton,fI held i b1]
  generalize held.getD i 0=f at hmem⊢;refine Wk ?_;rw [hi1];refine⟨(i+1,gM M [f] (.bool true)),⟨by show i+1<=_;omega,λy=>?_⟩,?_,by show held.length- (i+1)<held.length-i;omega⟩
  ·show eP (gM M [f] (.bool true)) [y] (.bool false)=.bool (decide (y∈held.take (i+1)));rw [uE,hM y];simp only [List.cons.injEq,and_true]
   by_cases e:y=f
   ·rw [if_pos e,show decide (y∈held.take (i+1))=true by rw [decide_eq_true_eq,hmem];exact .inr e]
   ·rw [if_neg e]
    congr 1
    exact decide_eq_decide.2 (by rw [hmem];exact⟨.inl,λh=>h.resolve_right e⟩)
  exact Vw [some 0,some 1,some 2,some 3]
 have b1:i=held.length:=by simp at b1;omega
 subst b1;rw [zM] at hM;refine Wk ?_;rw [aA,aO (n:=(l.I.length:Int)-1) (by omega) (by omega)]
 refine⟨Nat×ScS,λp=>ScB l p.1 p.2/\(⟨l.A,(jD l.R held n (l.I.take p.1).reverse p.2).I,(jD l.R held n (l.I.take p.1).reverse p.2).R⟩,(jD l.R held n (l.I.take p.1).reverse p.2).v)=q,λp=>⟨[(1,⟨[],true,.int .i64 n⟩),(3,⟨[],true,.ptr 0 0 0⟩),(6,⟨[],true,.ptr 1 0 0⟩),(8,⟨[],true,.ptr 2 0 0⟩),(9,⟨[],true,.mp 3⟩),(12,⟨[],true,.sl 4 0 p.2.v.length⟩),(13,⟨[],true,.int .i64 ((p.1:Int)-1)⟩)],
  [(0,.box l.c),(1,.box [.lst 0 true [],.lst 0 true [],.lst 0 true []]),(2,.box [.lst 1 false (aB l.A),.lst 1 false (aB p.2.I),.lst 1 false (aB p.2.R)]),(3,.mp (1,M)),(4,.row 1 (aB p.2.v))],5⟩,λp=>p.1,⟨(l.I.length,⟨l.I,l.R,[]⟩),⟨⟨zW _,by show l.I.length+l.I.length<=_;omega,zW _,by show([]:List Int).length+l.I.length<=_;simp⟩,by dsimp only;rw [aU6];exact hk⟩,?_⟩,λp hp=>?_⟩
 ·exact Vw [some 0,some 1,some 2,some 3,none]
 obtain⟨k,s⟩:=p;obtain⟨hB,hq⟩:=hp;dsimp only at hB hq⊢;have hBk:=hB.kk;have hBi:=hB.i;have hBr:=hB.r;have hBv:=hB.v;refine Wk ?_
 by_cases hk0:k=0
 ·subst hk0;rw [show decide (0<=(((0:Nat)):Int)-1)=false from rfl];subst hq;refine Wk ?_;refine⟨[],trivial,rfl,trivial,rfl,?_⟩
  try subst hk
  repeat' (first |exact trivial |rfl |exact .inl rfl |exact .inr rfl |exact id |exact zbc |apply And.intro)
  ·show 0+s.v.length<=_;rw [aA];omega
  ·exact dI (aA _)
 obtain⟨k,rfl⟩:∃j,k=j+1:=⟨k-1,by omega⟩;rw [show(((k+1:Nat):Int)-1)=(k:Int) by omega,show decide (0<=(k:Int))=true by rw [decide_eq_true_eq];omega,zct];have hkl:k<l.I.length:=by omega
 rw [aYI hkl,jD] at hq;have hw:IntKind.i64.wrap ((k:Int)-1)=(k:Int)-1:=aO (by omega) (by omega);refine aC (λb2=>?_) (λb2=>?_)<;> try simp only [zD,zA,zE,zC,zF] at b2
 ·rw [b2,zct] at hq;have hB':=hB.next l.R held l.I[k];refine Wk ?_;refine aG (⟨rfl,by omega,by rw [aA];omega⟩) ?_;rw [cX l.I k hkl,<-fI l.I k hkl];refine Wk ?_;rw [hM];have hS:eR l.R held s l.I[k]=bif decide (l.I[k]∈held) then s else bif decide (l.I[k]∈l.R) then⟨l.I[k]::wo s.I l.I[k],wo s.R l.I[k],s.v⟩ else⟨s.I,s.R,s.v++ [l.I[k]]⟩:=rfl
  generalize eR l.R held s l.I[k]=s' at hB' hq hS;generalize l.I[k]=f at hS⊢;refine Wk ?_;refine aC (λb3=>?_) (λb3=>?_)<;> try simp only [zD,zA,zE,zC,zF] at b3
  ·rw [b3,zct] at hS;subst hS;refine Wk ?_;rw [hw];refine⟨(k,s'),⟨hB',hq⟩,?_,by show k<k+1;omega⟩;exact Vw [some 0,some 1,some 2,some 3,some 4]
  rw [b3,zcf] at hS;refine cS (aMP l.R false f (by omega)) ?_;refine aC (λb4=>?_) (λb4=>?_)<;> try simp only [zD,zA,zE,zC,zF] at b4
  ·rw [b4,zct] at hS;refine Wk2 (aIE s.I false f (by omega)) (aCR s.R false f (by omega)) ?_;rw [hw];refine⟨(k,s'),⟨hB',hq⟩,?_,by show k<k+1;omega⟩;subst hS;exact Vw [some 0,some 1,some 2,some 3,some 4]
  rw [b4,zcf] at hS;refine Wk ?_;refine aG ((aA s.v).symm) (cC (by show(((aB s.v).length+1:Nat):Int)<=_;rw [aA];omega) (by show((aB s.v).length+1)*8<=_;rw [aA];omega) ?_);refine Wk ?_;rw [hw];refine⟨(k,s'),⟨hB',hq⟩,?_,by show k<k+1;omega⟩;subst hS;refine bS [some 0,some 1,some 2,some 3,some ?k151_4] rfl rfl ?h3_151 ?h4_151 ?h5_151 ?h6_151 ?h7_151
  case' h7_151=>repeat' (first |exact trivial |rfl |exact .inl rfl |exact .inr rfl |exact id |exact zbc |apply And.intro)
  case' h4_151=>rfl
  case' h6_151=>rfl
  case' h3_151=>repeat' (first |exact trivial |rfl |exact .inl rfl |exact .inr rfl |exact id |exact zbc |apply And.intro)
  case' h5_151=>repeat' (first |exact trivial |rfl |exact .inl rfl |exact .inr rfl |exact id |exact zbc |apply And.intro)
  ·exact fS s.v f
  ·show(aB s.v).length+1=_;rw [aA,zH];rfl
 rw [b2,zcf] at hq;subst hq;refine Wk ?_;refine⟨[],trivial,rfl,trivial,rfl,?_⟩
 try subst hk
 repeat' (first |exact trivial |rfl |exact .inl rfl |exact .inr rfl |exact id |exact zbc |apply And.intro)
 ·show 0+s.v.length<=_;rw [aA];omega
 ·exact dI (aA _)
open Go.Shelf
theorem oO(b:Nat)(ty:TypeId):∀(vs:List Value) (o:Nat) (w:World) (arr:Array Value),w.heap[b]? =some (.cells arr ty (0,0))->
 (w.setCells b o vs).heap[b]? =some (.cells (wrote arr o vs) ty (0,0))/\(w.setCells b o vs).heap.size=w.heap.size/\∀j,j≠b->(w.setCells b o vs).heap[j]? =w.heap[j]?
 | [],_,_,_,h=>⟨h,rfl,λ_ _=>rfl⟩
 |v::r,o,w,arr,h=>by
  have C:(w.setCell ⟨b,o,none⟩ v).heap[b]? =some (.cells (arr.setIfInBounds o v) ty (0,0)):=by unfold World.setCell;dsimp only;rw [zP,if_pos rfl,h];rfl
  have D:(w.setCell ⟨b,o,none⟩ v).heap.size=w.heap.size:=by unfold World.setCell;dsimp only;rw [Array.size_modify]
  have B:∀j,j≠b->(w.setCell ⟨b,o,none⟩ v).heap[j]? =w.heap[j]? :=λj f=>by unfold World.setCell;dsimp only;rw [zP,if_neg (λe=>f e.symm)]
  obtain⟨m,h2,z⟩:=oO b ty r (o+1) _ _ C;exact⟨m,h2.trans D,λj f=>(z j f).trans (B j f)⟩
theorem aOT(l:List Int)(i:Nat)(x:Int)(hi:i<=l.length)(arr:Array Value)(G:l.length+1<=arr.size)(D:∀(j:Nat) (u:Value),(dP l)[j]? =some u->arr[j]? =some u)(j:Nat)(u:Value)(e:(dP (gX l i x))[j]? =some u):
 (wrote (wrote arr (i+1) ((dP l).drop i)) i [.int .i64 x])[j]? =some u:=by
 have C:(dP l).length=l.length:=by simp [dP]
 have B:((dP l).drop i).length=l.length-i:=by rw [List.length_drop,C]
 rw [qJ _ _ _ _ (by rw [nQ];simp;omega),qJ _ _ _ _ (by rw [B];omega),B];have m:dP (gX l i x)=(dP l).take i++Value.int .i64 x::(dP l).drop i:=by simp [dP,gX]
 rw [m,List.getElem?_append] at e;have H:((dP l).take i).length=i:=by rw [zV,C];omega
 rw [H] at e;split at e
 ·rename_i f;rw [if_neg (by simp;omega),if_neg (by omega)];rw [List.getElem?_take,if_pos f] at e;exact D j u e
 ·rename_i F
  by_cases E:j=i
  ·subst E;rw [if_pos (by simp)];simpa using e
  ·have z:((dP l).drop i)[j- (i+1)]? =some u:=by rw [show j-i=(j- (i+1))+1 by omega,List.getElem?_cons_succ] at e;exact e
   obtain⟨f,-⟩:=List.getElem?_eq_some_iff.1 z;rw [B] at f;rw [if_neg (by simp;omega),if_pos (by omega)];exact z
theorem bHT(l:List Int)(i:Nat)(x:Int)(c:Nat)(hi:i<=l.length)(hc:l.length+1<=c)(aa:c<=9223372036854775807):
 aN Tryz.prog 287 [.row 1 (aB l),.row 1 [[.int .i64 x]]] [.slk 0 0 l.length c,.int .i64 i,.sl 1 0 1] (.sl 0 0 (l.length+1)) [.row 1 (aB (gX l i x)),.row 1 [[.int .i64 x]]]:=by
 intro U σ w E hR hn B
 obtain⟨c0,c1,c2,rfl⟩:∃a b c,E= #[a,b,c]:=by
  rcases E with ⟨L⟩
  match L,hn with
  | [a,b,c],_=>exact⟨a,b,c,rfl⟩
 have a0:=B 0 _ c0 rfl rfl;have a1:=B 1 _ c1 rfl rfl;have a2:=B 2 _ c2 rfl rfl;generalize ap:l.length=ln at a0 hc⊢
 cases a0 with
 |slk0 h=>omega
 | @slk _ _ _ _ _ b es cap a K az al ab=>
 subst ap
 cases a1 with
 |int=>
 cases a2 with
 | @sl _ _ _ _ W a3 O va hs a4 ha=>
 rw [Nat.sub_zero] at ab;subst ab;have N:=hR.obj 0 (.row 1 (aB l)) rfl;rw [K] at N;obtain⟨-,rfl,R,m,C,f,Q,G⟩:=N;have ae:=hR.obj 1 (.row 1 [[.int .i64 x]]) rfl;rw [hs] at ae;obtain⟨-,rfl,-,ah,ty,F,Z,J⟩:=ae;obtain⟨xv,ar,-,au⟩:=J 0 _ 0 _ rfl rfl
 cases au with
 |int=>
 obtain rfl:=ha (by omega);obtain rfl:=al (by omega);have aq:W≠b:=by rintro rfl;have :=hR.inj 0 1 _ _ W _ _ _ _ rfl rfl K hs;cases this
 rw [Nat.mul_one] at Z Q
 have ag:∀(j:Nat) (v:Value),([Value.int .i64 x])[j]? =some v->w.cell? ⟨W,0*1+j,none⟩=some v:=λj v D=>by
  cases j with
  |zero=> simp only [zN,zse] at D;subst D;rw [World.cell?,F];simpa using ar
  |succ j=>simp at D
 have M:∀(j:Nat) (u:Value),(dP l)[j]? =some u->m[j]? =some u:=λj u D=>by
  simp only [dP,zS,zO] at D;obtain⟨y,T,rfl⟩:=D;obtain⟨v,q1,-,q3⟩:=G j [.int .i64 y] 0 (.int .i64 y) (by simp [aB,T]) rfl;cases q3
  simpa using q1
 have ao:∀(j:Nat) (v:Value),(dP l)[j]? =some v->w.cell? ⟨b,0*1+j,none⟩=some v:=λj v D=>by rw [World.cell?,f];simpa using M j v D
 have af:∀j,j<l.length+1->(w.cell? ⟨b,0*1+j,none⟩).isSome=true:=λj D=>by rw [World.cell?,f];simp only [zT,zU];rw [Array.getElem?_eq_getElem (by omega)];rfl
 have ad:∀o,w.frozen? ⟨b,o,none⟩=false:=λo=>by rw [World.frozen?,f];simp [mkF]
 have ac:∀o,w.frozen? ⟨W,o,none⟩=false:=λo=>by rw [World.frozen?,F];simp [mkF]
 have ay:∀v∈dP l,v.oneCell'=true:=λv hv=>by simp only [dP,List.mem_map] at hv;obtain⟨y,-,rfl⟩:=hv;rfl
 have Y:∀(H:World),H.os=w.os->H.tape=w.tape->H.output=w.output->H.heap.size=w.heap.size->(∀j,j≠b->H.heap[j]? =w.heap[j]?)->H.heap[b]? =some (.cells (wrote (wrote m (i+1) ((dP l).drop i)) i [.int .i64 x]) C.1 (0,0))->
  ∃cv σ',(Ending.returned (.slice (some ⟨b,0*1,none⟩) (l.length+1) c))=.returned cv/\aP U σ' (aF 0 [.row 1 (aB (gX l i x)),.row 1 [[.int .i64 x]]]) H 2/\VR (Own U σ' (aF 0 [.row 1 (aB (gX l i x)),.row 1 [[.int .i64 x]]])) H σ' (.sl 0 0 (l.length+1)) cv/\
   bJ σ (aF 0 [.row 1 (aB l),.row 1 [[.int .i64 x]]]) w 2 σ' (aF 0 [.row 1 (aB (gX l i x)),.row 1 [[.int .i64 x]]]) H 2:=λH e1 e2 e3 e4 e5 e6=>by
  obtain⟨g,r⟩:=hR.write (k:=0) (o0:=.row 1 (aB l)) (o:=.row 1 (aB (gX l i x))) rfl K e1 e2 e3 e4 e5 (λg=>by
   refine⟨λy T=>?_,rfl,⟨by rw [aA,lQ];omega,R.2⟩,_,C,e6,by rw [nQ,nQ];omega,λj y k u T hu=>?_⟩
   ·simp only [aB,List.mem_map] at T;obtain⟨z,-,rfl⟩:=T;rfl
   ·simp only [aB,zS,zO] at T;obtain⟨z,hz,rfl⟩:=T
    cases k with
    |succ k=>simp at hu
    |zero=> simp only [zN,zse] at hu;subst hu;refine⟨.int .i64 z,?_,rfl,.int _ _⟩;rw [Nat.mul_one,Nat.add_zero];exact aOT l i x hi m (by omega) M j _ (by simp [dP,hz]))
  exact⟨_,σ,rfl,r,.sl K (by omega) (λ_=>rfl),g⟩
 by_cases he:i=l.length
 ·subst he;refine(Any2.slices_Insert_int_end_room aJL b (0*1) l.length c W (0*1) 1 (O-0) [.int .i64 x] w (by omega) (by omega) aa rfl (λj D=>by rw [Nat.add_assoc];exact af _ (by omega)) (λj _=>ad _) ag (by simp [bBI])).mono ?_;rintro e H ⟨rfl,rfl⟩;obtain⟨h1,h2,h3⟩:=oO b C.1 [.int .i64 x] (0*1+l.length) w m f;obtain⟨o1,o2,o3⟩:=kD b [.int .i64 x] (0*1+l.length) w;refine Y _ o1 o2 o3 h2 h3 ?_;rw [h1,zT,zU,List.drop_of_length_le (by simp [dP])];rfl
 ·refine(Any2.slices_Insert_int_shift aJL b (0*1) l.length c i W (0*1) 1 (O-0) (dP l) [.int .i64 x] w (by omega) (by omega) (by omega) aa aq (by simp [dP]) rfl ao af (λj _=>ad _) ag ay (by simp [bBI]) ty.1 C.1 ah.size m.size
   (by rw [World.shape?,F]) (by rw [World.shape?,f]) (by omega) (ac _) (ac _)).mono ?_
  rintro e H ⟨rfl,rfl⟩;have am:w.drew.heap[b]? =some (.cells m C.1 (0,0)):=f;obtain⟨h1,h2,h3⟩:=oO b C.1 ((dP l).drop i) (0*1+(i+1)) w.drew m am;obtain⟨o1,o2,o3⟩:=kD b ((dP l).drop i) (0*1+(i+1)) w.drew;obtain⟨ai,aj,ak⟩:=oO b C.1 [.int .i64 x] (0*1+i) _ _ h1;obtain⟨av,aw,ax⟩:=kD b [.int .i64 x] (0*1+i) (w.drew.setCells b (0*1+(i+1)) ((dP l).drop i));refine Y _ (av.trans o1) (aw.trans o2) (ax.trans o3) (aj.trans h2) (λj D=>(ak j D).trans (h3 j D)) ?_;rw [ai]
  simp only [zT,zU]
theorem bEF(l:Ls)(f:Int)(B:eD l):aN Tryz.prog 201 [] [.agg l.c,.int .i64 f] (.tup [.agg (nM l f).1.c,.int .i64 (nM l f).2]) []:=by
 have W:=B.a;have h2:=B.i;have Y:=B.r;refine eX (ob0:= []) [.v 35,.r 49] Tryz.func201 rfl rfl rfl rfl ?_;generalize j:nM l f=q;rw [nM] at j;refine Wk ?_;refine .inr ⟨λ_=>⟨[],_,_,_,bHR l B,trivial,rfl,rfl,rfl,?_⟩,(by intro h;cases h)⟩
 refine cS (aXM l f B) ?_;refine aC (λH=>?_) (λH=>?_)<;> try simp only [zD,zA,zE,zC,zF] at H
 ·rw [<-aDA (λe=>(l,e)) _ H] at j;subst j;refine Wk ?_;refine⟨[],trivial,rfl,trivial,rfl,?_⟩
  try subst j
  repeat' (first |exact trivial |rfl |exact .inl rfl |exact .inr rfl |exact id |exact zbc |apply And.intro)
  ·show 0+l.R.length<=_;rw [aA];omega
  ·exact dI (aA _)
 obtain⟨e1,N⟩:=aNT H;have M:=(bX l).1 e1;rw [e1,N] at j;simp only [zQ,zcf] at j;refine cS (aXN l f B) ?_;refine aC (λJ=>?_) (λJ=>?_)<;> try simp only [zD,zA,zE,zC,zF] at J
 ·rw [show(!lO l f)=true by rw [J];rfl,zct] at j;subst j;refine Wk ?_;refine⟨[],trivial,rfl,trivial,rfl,?_⟩
  try subst j
  repeat' (first |exact trivial |rfl |exact .inl rfl |exact .inr rfl |exact id |exact zbc |apply And.intro)
  ·show 0+l.R.length<=_;rw [aA];omega
  ·exact dI (aA _)
 rw [show(!lO l f)=false by rw [J];rfl,zcf] at j;have G:aN Tryz.prog 286 [] [.lst 1 false (((aB l.R).drop 0).take l.R.length),.int .i64 f] (.tup [.int .i64 (fB l.R f),.bool (aBK l.R f)]) []:=by rw [dI (aA l.R)];exact bES l.R false f (by omega) M.asc
 have m:=aJG M.asc f;have C:=vC l.R f;refine Wk ?_;refine .inl ⟨_,λ_=>⟨?_,G⟩,.inr rfl,?_⟩
 ·intro v D;have D:v∈ [V.sl 2 0 l.R.length,V.int .i64 f]:=D;rcases List.mem_cons.1 D with rfl |D
  ·show 0+l.R.length<=(aB l.R).length;rw [aA];omega
  ·obtain rfl:=List.mem_singleton.1 D;exact trivial
 refine Wk ?_;refine aC (λz=>?_) (λz=>?_)<;> try simp only [zD,zA,zE,zC,zF] at z
 ·have z:f∉l.R:=by rw [<-m];simpa using z
  rw [show(!decide (f∈l.R))=true by simpa using z,zct] at j;refine Wk ?_
  refine⟨Option Nat,λ|none=>True |some c=>l.R.length+1<=c/\c<=9223372036854775807,
   fun |none=>⟨[(1,⟨[],true,.int .i64 f⟩),(4,⟨[],true,.ptr 0 0 0⟩),(6,⟨[],true,.ptr 1 0 0⟩),(8,⟨[],true,.int .i64 (fB l.R f:Int)⟩),(35,⟨[],true,.lst 1 true (aB l.R)⟩)],[(0,.box [.lst 0 true [],.lst 0 true [],.lst 0 true []]),(1,.box [.lst 1 false (aB l.A),.lst 1 false (aB l.I),.lst 1 false (aB l.R)])],2⟩
       |some c=>⟨[(1,⟨[],true,.int .i64 f⟩),(4,⟨[],true,.ptr 0 0 0⟩),(6,⟨[],true,.ptr 1 0 0⟩),(8,⟨[],true,.int .i64 (fB l.R f:Int)⟩),(35,⟨[],true,.slk 2 0 l.R.length c⟩)],[(0,.box [.lst 0 true [],.lst 0 true [],.lst 0 true []]),(1,.box [.lst 1 false (aB l.A),.lst 1 false (aB l.I),.sl 2 0 l.R.length]),(2,.row 1 (aB l.R))],3⟩,?_,λx O=>?_⟩
  ·refine Wk ?_;intro c Z E
   by_cases F:c=l.R.length
   ·subst F;refine⟨none,trivial,?_⟩;refine bS [some 1,some 18] rfl rfl ?_ rfl ?_ rfl ?_
    repeat' (first |exact trivial |rfl |exact .inl rfl |exact .inr rfl |exact id |exact zbc |apply And.intro)
    ·show 0+l.R.length<=_;rw [aA];omega
    ·exact dI (aA _)
    ·exact λ_=>rfl
    ·show 0+l.R.length<=_;rw [aA];omega
    ·exact dI (aA _)
   refine⟨some c,⟨by omega,E⟩,?_⟩;exact Vw [some 1,some 18,some 2]
  cases x with
  |none=>
   refine Wk ?_;refine .inr ⟨λ_=>⟨[2],_,_,_,bET l.R (fB l.R f) f C (by omega),⟨rfl,trivial⟩,rfl,rfl,rfl,?_⟩,(by intro h;cases h)⟩
   subst j;refine Wk ?_
   try subst j
   exact Lf
  |some c=>
   obtain⟨Q,T⟩:=O;refine Wk ?_;refine .inr ⟨λ_=>⟨[2,3],_,_,_,bHT l.R (fB l.R f) f c C Q T,⟨rfl,rfl,trivial⟩,rfl,rfl,rfl,?_⟩,(by intro h;cases h)⟩
   subst j;refine Wk ?_;refine⟨[],trivial,rfl,trivial,rfl,?_⟩
   try subst j
   repeat' (first |exact trivial |rfl |exact .inl rfl |exact .inr rfl |exact id |exact zbc |apply And.intro)
   ·show 0+(l.R.length+1)<=_;rw [aA,lQ];omega
   ·exact dI (by rw [aA,lQ])
 have z:f∈l.R:=by rw [<-m];simpa using z
 rw [show(!decide (f∈l.R))=false by simpa using z,zcf] at j;refine cS (aMP l.I false f (by omega)) ?_;refine aC (λK=>?_) (λK=>?_)<;> try simp only [zD,zA,zE,zC,zF] at K
 ·rw [K,zct] at j;subst j;refine Wk ?_;refine⟨Unit,λ_=>True,λ_=>⟨[(1,⟨[],true,.int .i64 f⟩),(4,⟨[],true,.ptr 0 0 0⟩),(6,⟨[],true,.ptr 1 0 0⟩)],[(0,.box [.lst 0 true [],.lst 0 true [],.lst 0 true []]),(1,.box [.lst 1 false (aB l.A),.lst 1 false (aB (wo l.I f)),.lst 1 false (aB l.R)])],2⟩,?_,λ_ _=>?_⟩
  ·refine cS (aCR l.I false f (by omega)) ?_;refine⟨(),trivial,?_⟩;refine bS [some 1,some 18] rfl rfl ?_ rfl ?_ rfl ?_
   repeat' (first |exact trivial |rfl |exact .inl rfl |exact .inr rfl |exact id |exact zbc |apply And.intro)
   ·show 0+l.R.length<=_;rw [aA];omega
   ·exact dI (aA _)
  refine Wk2 (aIE l.A false f (by omega)) (aCR l.R false f (by omega)) ?_
  try subst j
  exact Lf
 rw [K,zcf] at j;subst j;refine Wk ?_;refine⟨[],trivial,rfl,trivial,rfl,?_⟩
 try subst j
 repeat' (first |exact trivial |rfl |exact .inl rfl |exact .inr rfl |exact id |exact zbc |apply And.intro)
 ·show 0+l.R.length<=_;rw [aA];omega
 ·exact dI (aA _)
end Go.Proofs.YtmhapcbjjpadnaaGreat
