/- Caches. -/
import Derived.Test.YtmhapcbjjpadnaaGreatG5b
import Derived.Test.YtmhapcbjjpadnaaGreatG4b
import Derived.Test.YtmhapcbjjpadnaaGreatG3b
set_option linter.all false
set_option maxHeartbeats 1000000
set_option maxRecDepth 40000
open Array renaming getElem?_modify→zM
open Bool renaming cond_false_right→zA,not_eq_false'→zC,cond_true_left→zD,not_eq_true'→zE,not_not→zF,or_eq_false_iff→zG,not_true→zN
open List renaming getElem_of_mem→zH,filter_sublist→zI,getElem_mem→zJ,getElem?_cons_zero→zK,getElem?_map→zO,length_take→zS
open Nat renaming zero_mul→zP,zero_add→zQ
open Option renaming map_eq_some_iff→zL
namespace Go.Proofs.YtmhapcbjjpadnaaGreat
open Go Go.Sk Go.RowKit
def oH(l:Ls)(f:Int):Bool:=decide (f∈l.A)||decide (f∈l.I)
theorem aV6(l:Ls)(f:Int)(hl:eL l):aM Tryz.prog 240 [] [.agg l.c,.int .i64 f] (.bool (oH l f)) []:=by
 have h1:=hl.a;have h2:=hl.i
 refine aF (ob0:= []) [] Tryz.func240 rfl rfl rfl rfl ?_
 refine Wk2 (aV1 l.A false f (by omega)) (aV1 l.I false f (by omega)) ?_
 try subst hk
 exact Lf
theorem aUW(l:Ls)(f:Int)(hl:eL l):aM Tryz.prog 203 [] [.agg l.c,.int .i64 f] (.bool (oH l f)) []:=by
 have h1:=hl.a;have h2:=hl.i
 refine aF (ob0:= []) [] Tryz.func203 rfl rfl rfl rfl ?_
 refine Wk2 (aGL l.A false f (by omega)) (aGL l.I false f (by omega)) ?_
 rw [atM,atM]
 try subst hk
 exact Lf
def kJ(l:Ls)(f:Int):Int:=bif !fJ l then 1 else bif !cG f then 2 else 0
theorem aV5(l:Ls)(f:Int)(hl:eL l):aM Tryz.prog 239 [] [.agg l.c,.int .i64 f] (.int .i64 (kJ l f)) []:=by
 refine aF (ob0:= []) [] Tryz.func239 rfl rfl rfl rfl ?_
 generalize hk:kJ l f=q
 rw [kJ] at hk
 refine cC (bBI l hl) ?_
 refine aC (λc1=>?_) (λc1=>?_)<;> try simp only [zD,zA,zE,zC,zF] at c1
 ·rw [show(!fJ l)=true by rw [c1];rfl] at hk
  have hk:1=q:=hk
  subst hk
  refine Wk ?_
  try subst hk
  exact Lf
 rw [show(!fJ l)=false by rw [c1];rfl,cond_false] at hk
 refine cC (bC1 f) ?_
 refine aC (λc2=>?_) (λc2=>?_)<;> try simp only [zD,zA,zE,zC,zF] at c2
 ·rw [show(!cG f)=true by rw [c2];rfl] at hk
  have hk:2=q:=hk
  subst hk
  refine Wk ?_
  try subst hk
  exact Lf
 rw [show(!cG f)=false by rw [c2];rfl] at hk
 have hk:0=q:=hk
 subst hk
 refine Wk ?_
 try subst hk
 exact Lf
def aQ5(a b:Ls):Bool:=(decide (a.A=b.A)&&decide (a.I=b.I))&&decide (a.R=b.R)
theorem bMX(a b:Ls)(ha:eL a)(hb:eL b):aM Tryz.prog 94 [] [.agg a.c,.agg b.c] (.bool (aQ5 a b)) []:=by
 have h1:=ha.a;have h2:=ha.i;have h3:=ha.r
 have g1:=hb.a;have g2:=hb.i;have g3:=hb.r
 refine aF (ob0:= []) [] Tryz.func94 rfl rfl rfl rfl ?_
 refine Wk3 (aZ2 a.A b.A false false (by omega) (by omega)) (aZ2 a.I b.I false false (by omega) (by omega)) (aZ2 a.R b.R false false (by omega) (by omega)) ?_
 refine⟨[],trivial,rfl,trivial,rfl,?_⟩
 try subst hk
 repeat' (first |exact trivial |rfl |exact .inl rfl |exact .inr rfl |exact id |exact(λh=>Bool.noConfusion h)|refine And.intro ?_ ?_)
 unfold aQ5;cases decide (a.A=b.A)<;> cases decide (a.I=b.I)<;> rfl
def aSV(fr:List Int->List Int)(l:Ls)(f:Int)(act:Bool):Ls×Int:=
 bif !fJ l then(l,1) else bif !cG f then(l,2) else bif oH l f then(l,5) else
 bif act then(⟨fr l.A,l.I,l.R⟩,0) else(⟨l.A,fr l.I,l.R⟩,0)
def aMB(l:Ls)(f:Int)(act:Bool):Ls×Int:=aSV (λx=>f::wo x f) l f act
def aAE(l:Ls)(f:Int)(act:Bool):Ls×Int:=aSV (λx=>f::x) l f act
theorem bHK(l:Ls)(f:Int)(act:Bool)(hl:eL l):aM Tryz.prog 149 [] [.agg l.c,.int .i64 f,.bool act] (.tup [.agg (aMB l f act).1.c,.int .i64 (aMB l f act).2]) []:=by
 have h1:=hl.a;have h2:=hl.i;have h3:=hl.r
 refine aF (ob0:= []) [] Tryz.func149 rfl rfl rfl rfl ?_
 generalize hk:aMB l f act=q
 rw [aMB,aSV] at hk
 refine Wk2 (aV4 l hl) (aV5 l f hl) ?_
 refine aC (λc1=>?_) (λc1=>?_)<;> try simp only [zD,zA,zE,zC,zF] at c1
 ·have hk:(l,kJ l f)=q:=by
   rw [<-hk]
   unfold kJ
   unfold kJ at c1
   revert c1
   cases fJ l <;> cases cG f <;> intro c1 <;> first |rfl |exact absurd c1 (by decide)
  subst hk
  refine Wk ?_
  try subst hk
  exact Lf
 have e1:fJ l=true:=by unfold kJ at c1;cases h:fJ l <;> simp [h] at c1⊢
 have e2:cG f=true:=by unfold kJ at c1;cases h:cG f <;> simp [h,e1] at c1⊢
 rw [e1,e2] at hk
 simp only [zN,cond_false] at hk
 refine cC (aV6 l f hl) ?_
 refine aC (λc2=>?_) (λc2=>?_)<;> try simp only [zD,zA,zE,zC,zF] at c2
 ·rw [c2,cond_true] at hk
  subst hk
  refine Wk ?_
  try subst hk
  exact Lf
 rw [c2,cond_false] at hk
 refine Wk ?_
 refine aC (λc3=>?_) (λc3=>?_)<;> try simp only [zD,zA,zE,zC,zF] at c3
 ·rw [c3,cond_true] at hk
  subst hk
  refine cC (aV7 l.A false f (by omega)) ?_
  try subst hk
  exact Lf
 rw [c3,cond_false] at hk
 subst hk
 refine cC (aV7 l.I false f (by omega)) ?_
 try subst hk
 exact Lf
end Go.Proofs.YtmhapcbjjpadnaaGreat
namespace Go.Proofs.YtmhapcbjjpadnaaGreat
open Go Go.Sk Go.RowKit
theorem aAV(f:Int):(bif decide (f<1) then true else decide (64<f))= !cG f:=by rw [<-aKL];rfl
theorem bHC(l:Ls)(f:Int)(act:Bool)(hl:eL l):aM Tryz.prog 119 [] [.agg l.c,.int .i64 f,.bool act] (.tup [.agg (aAE l f act).1.c,.int .i64 (aAE l f act).2]) []:=by
 have h1:=hl.a;have h2:=hl.i;have h3:=hl.r
 refine aF (ob0:= []) [] Tryz.func119 rfl rfl rfl rfl ?_
 generalize hk:aAE l f act=q
 rw [aAE,aSV] at hk
 refine cC (aUT l hl) ?_
 refine aC (λc1=>?_) (λc1=>?_)<;> try simp only [zD,zA,zE,zC,zF] at c1
 ·rw [show(!fJ l)=true by rw [c1];rfl,cond_true] at hk
  subst hk
  refine Wk ?_
  try subst hk
  exact Lf
 rw [show(!fJ l)=false by rw [c1];rfl,cond_false] at hk
 refine Wk ?_
 rw [aAV]
 refine aC (λc2=>?_) (λc2=>?_)<;> try simp only [zD,zA,zE,zC,zF] at c2
 ·rw [show(!cG f)=true by rw [c2];rfl,cond_true] at hk
  subst hk
  refine Wk ?_
  try subst hk
  exact Lf
 rw [show(!cG f)=false by rw [c2];rfl,cond_false] at hk
 refine cC (aUW l f hl) ?_
 refine aC (λc3=>?_) (λc3=>?_)<;> try simp only [zD,zA,zE,zC,zF] at c3
 ·rw [c3,cond_true] at hk
  subst hk
  refine Wk ?_
  try subst hk
  exact Lf
 rw [c3,cond_false] at hk
 refine Wk ?_
 refine aC (λc4=>?_) (λc4=>?_)<;> try simp only [zD,zA,zE,zC,zF] at c4
 ·rw [c4,cond_true] at hk
  subst hk
  refine cC (aUU l.A false f (by omega)) ?_
  try subst hk
  exact Lf
 rw [c4,cond_false] at hk
 subst hk
 refine cC (aUU l.I false f (by omega)) ?_
 try subst hk
 exact Lf
def mV(l:Ls)(f:Int):Ls×Int:=
 bif !fJ l then(l,1) else bif !cG f then(l,2) else bif !oH l f then(l,4) else(⟨wo l.A f,wo l.I f,wo l.R f⟩,0)
theorem aCG {l:Ls} {f:Int} {α:Type} (a:Int->α)(b:α)(c1:(kJ l f != 0)=true):a (kJ l f)=bif !fJ l then a 1 else bif !cG f then a 2 else b:=by
 unfold kJ at c1⊢
 revert c1
 cases fJ l <;> cases cG f <;> intro c1 <;> first |rfl |exact absurd c1 (by decide)
theorem aLZ {l:Ls} {f:Int} (c1:(kJ l f != 0)=false):fJ l=true/\cG f=true:=by
 unfold kJ at c1
 revert c1
 cases fJ l <;> cases cG f <;> intro c1 <;> first |exact⟨rfl,rfl⟩|exact absurd c1 (by decide)
theorem bBM(l:Ls)(f:Int)(hl:eL l):aM Tryz.prog 245 [] [.agg l.c,.int .i64 f] (.tup [.agg (mV l f).1.c,.int .i64 (mV l f).2]) []:=by
 have h1:=hl.a;have h2:=hl.i;have h3:=hl.r
 refine aF (ob0:= []) [] Tryz.func245 rfl rfl rfl rfl ?_
 generalize hk:mV l f=q
 rw [mV] at hk
 refine cC (aV5 l f hl) ?_
 refine aC (λc1=>?_) (λc1=>?_)<;> try simp only [zD,zA,zE,zC,zF] at c1
 ·rw [<-aCG (λe=>(l,e)) _ c1] at hk
  subst hk
  refine cC (aV4 l hl) ?_
  try subst hk
  exact Lf
 obtain⟨e1,e2⟩:=aLZ c1
 rw [e1,e2] at hk
 simp only [zN,cond_false] at hk
 refine cC (aV6 l f hl) ?_
 refine aC (λc2=>?_) (λc2=>?_)<;> try simp only [zD,zA,zE,zC,zF] at c2
 ·rw [show(!oH l f)=true by rw [c2];rfl,cond_true] at hk
  subst hk
  refine cC (aV4 l hl) ?_
  try subst hk
  exact Lf
 rw [show(!oH l f)=false by rw [c2];rfl,cond_false] at hk
 subst hk
 refine Wk3 (aGN l.A false f (by omega)) (aGN l.I false f (by omega)) (aGN l.R false f (by omega)) ?_
 try subst hk
 exact Lf
theorem bI5(l:Ls)(f:Int)(hl:eL l):aM Tryz.prog 249 [] [.agg l.c,.int .i64 f] (.tup [.agg (mV l f).1.c,.int .i64 (mV l f).2]) []:=by
 have h1:=hl.a;have h2:=hl.i;have h3:=hl.r
 refine aF (ob0:= []) [] Tryz.func249 rfl rfl rfl rfl ?_
 generalize hk:mV l f=q
 rw [mV] at hk
 refine cC (aUT l hl) ?_
 refine aC (λc1=>?_) (λc1=>?_)<;> try simp only [zD,zA,zE,zC,zF] at c1
 ·rw [show(!fJ l)=true by rw [c1];rfl,cond_true] at hk
  subst hk
  refine Wk ?_
  try subst hk
  exact Lf
 rw [show(!fJ l)=false by rw [c1];rfl,cond_false] at hk
 refine Wk ?_
 rw [aAV]
 refine aC (λc2=>?_) (λc2=>?_)<;> try simp only [zD,zA,zE,zC,zF] at c2
 ·rw [show(!cG f)=true by rw [c2];rfl,cond_true] at hk
  subst hk
  refine Wk ?_
  try subst hk
  exact Lf
 rw [show(!cG f)=false by rw [c2];rfl,cond_false] at hk
 refine cC (aUW l f hl) ?_
 refine aC (λc3=>?_) (λc3=>?_)<;> try simp only [zD,zA,zE,zC,zF] at c3
 ·rw [show(!oH l f)=true by rw [c3];rfl,cond_true] at hk
  subst hk
  refine Wk ?_
  try subst hk
  exact Lf
 rw [show(!oH l f)=false by rw [c3];rfl,cond_false] at hk
 subst hk
 refine Wk3 (aKZ l.A false f (by omega)) (aKZ l.I false f (by omega)) (aKZ l.R false f (by omega)) ?_
 try subst hk
 exact Lf
end Go.Proofs.YtmhapcbjjpadnaaGreat
namespace Go.Proofs.YtmhapcbjjpadnaaGreat
open Go Go.Sk Go.RowKit
structure aH9(l:Ls):Prop where
 nodup:(l.A++l.I).Nodup
 known:∀f∈l.A++l.I,1<=f/\f<=64
 asc:l.R.Pairwise (·< ·)
 sub:∀f∈l.R,f∈l.A++l.I
theorem pE(f:Int):cG f=true↔1<=f/\f<=64:=by simp [cG]
theorem aMF {l:List Int} (step:∀i,i+1<l.length->l.getD i 0<l.getD (i+1) 0):l.Pairwise (·< ·):=by
 have mon:∀d i,i+d+1<l.length->l.getD i 0<l.getD (i+d+1) 0:=λd=>by
  induction d with
  |zero=>exact λi hi=>step i hi
  |succ d ih=>
   intro i hi
   have h1:=ih i (by omega)
   have h2:=step (i+d+1) (by omega)
   rw [show i+(d+1)+1=i+d+1+1 by omega]
   omega
 refine List.pairwise_iff_getElem.2 λi j hi hj hij=>?_
 rw [fI,fI]
 have :=mon (j-i-1) i (by omega)
 rwa [show i+(j-i-1)+1=j by omega] at this
theorem gL(l:Ls):fJ l=true↔aH9 l:=by
 rw [fJ,Bool.and_eq_true]
 generalize hall:l.A++l.I=all
 constructor
 ·rintro ⟨h1,h2⟩
  refine⟨?_,?_,?_,?_⟩
  ·rw [hall]
   refine List.pairwise_iff_getElem.2 λi j hi hj hij e=>?_
   have :=jX hj h1
   simp only [aCJ,zG,decide_eq_false_iff_not] at this
   refine this.2 ?_
   rw [<-fI all j hj,<-e]
   rw [List.mem_take_iff_getElem]
   exact⟨i,by omega,rfl⟩
  ·rw [hall]
   intro f hf
   obtain⟨i,hi,rfl⟩:=zH hf
   have :=jX hi h1
   simp only [aCJ,zG,zC] at this
   rw [fI all i hi]
   exact(pE _).1 this.1
  ·refine aMF λi hi=>?_
   have :=jX hi h2
   simp only [aDI,zG,Bool.and_eq_false_iff,decide_eq_false_iff_not] at this
   have h3:=this.2
   rw [Nat.add_sub_cancel] at h3
   omega
  ·rw [hall]
   intro f hf
   obtain⟨i,hi,rfl⟩:=zH hf
   have :=jX hi h2
   simp only [aDI,zG,zC,decide_eq_true_eq] at this
   rw [fI l.R i hi]
   exact this.1
 ·intro h
  have hn:=h.nodup
  have hk:=h.known
  have hs:=h.sub
  rw [hall] at hn hk hs
  refine⟨qM λi hi=>?_,qM λi hi=>?_⟩
  ·simp only [aCJ,zG,zC,decide_eq_false_iff_not]
   rw [<-fI all i hi]
   refine⟨(pE _).2 (hk _ (zJ hi)),λhm=>?_⟩
   obtain⟨j,hj,e⟩:=zH hm
   rw [zS] at hj
   rw [List.getElem_take] at e
   exact List.pairwise_iff_getElem.1 hn j i (by omega) hi (by omega) e
  ·simp only [aDI,zG,zC,decide_eq_true_eq]
   first |refine aB (by rw [<-fI l.R i hi];exact hs _ (zJ hi)) ?_ |refine⟨by rw [<-fI l.R i hi];exact hs _ (zJ hi),?_⟩
   by_cases e:i=0
   ·simp [e]
   ·have :=jZ h.asc (i-1) i (by omega) hi
    rw [show decide (l.R.getD i 0<=l.R.getD (i-1) 0)=false by rw [decide_eq_false_iff_not];omega,Bool.and_false]
theorem aO9 {l:List Int} (h:l.Nodup) {x:Int} (hx:x∈l):(wo l x).length+1=l.length:=by
 have e:=List.Nodup.erase_eq_filter h x
 rw [wo,<-e,List.length_erase_of_mem hx]
 have :=List.length_pos_of_mem hx
 omega
theorem tG:∀(n:Nat) {l:List Int} {lo:Int},l.Nodup->(∀x∈l,lo<=x/\x<lo+n)->l.length<=n
 |0,[],_,_,_=>Nat.le_refl 0
 |0,x::r,lo,_,h=>by have :=h x (by simp);omega
 |n+1,l,lo,hn,h=>by
  have hn':(wo l (lo+n)).Nodup:=hn.sublist zI
  have :=tG n (l:=wo l (lo+n)) (lo:=lo) hn' λx hx=>by
   obtain⟨h1,h2⟩:=fV.1 hx
   have :=h x h1
   omega
  by_cases hm:(lo+n)∈l
  ·have :=aO9 hn hm;omega
  ·rw [aAA hm] at this;omega
theorem aH9.len {l:Ls} (h:aH9 l):(l.A++l.I).length<=64:=tG 64 (lo:=1) h.nodup λx hx=>by have :=h.known x hx;omega
theorem aH9.lenR {l:Ls} (h:aH9 l):l.R.length<=64:=tG 64 (lo:=1) (h.asc.imp λh=>by omega) λx hx=>by have :=h.known x (h.sub x hx);omega
theorem aH9.small {l:Ls} (h:aH9 l):eL l:=by
 have :=h.len;have :=h.lenR
 rw [List.length_append] at *
 exact⟨by omega,by omega,by omega⟩
theorem aH9.notA {l:Ls} (h:aH9 l) {f:Int} (hf:f∈l.I):f∉l.A:=λha=>(List.nodup_append.1 h.nodup).2.2 f ha f hf rfl
theorem aFB {l:List Int} (h:l.Nodup)(x:Int):(wo l x).Nodup:=h.sublist zI
theorem aWN {l:List Int} (h:l.Pairwise (·< ·))(x:Int):(wo l x).Pairwise (·< ·):=h.sublist zI
def mW(l:Ls)(f:Int):Ls×Int:=
 bif !fJ l then(l,1) else bif !cG f then(l,2) else bif !oH l f then(l,4) else
 bif !decide (f∈l.R) then(⟨l.A,l.I,gQ l.R (eW l.R f) f⟩,0) else bif decide (f∈l.I) then(⟨f::wo l.A f,wo l.I f,wo l.R f⟩,0) else(l,0)
theorem bMY(l:Ls)(f:Int)(hl:eL l):aM Tryz.prog 99 [] [.agg l.c,.int .i64 f] (.tup [.agg (mW l f).1.c,.int .i64 (mW l f).2]) []:=by
 have h1:=hl.a;have h2:=hl.i;have h3:=hl.r
 refine aF (ob0:= []) [] Tryz.func99 rfl rfl rfl rfl ?_
 generalize hk:mW l f=q
 rw [mW] at hk
 refine cC (aUT l hl) ?_
 refine aC (λc1=>?_) (λc1=>?_)<;> try simp only [zD,zA,zE,zC,zF] at c1
 ·rw [show(!fJ l)=true by rw [c1];rfl,cond_true] at hk
  subst hk
  refine Wk ?_
  try subst hk
  exact Lf
 have hP:=(gL l).1 c1
 rw [show(!fJ l)=false by rw [c1];rfl,cond_false] at hk
 refine Wk ?_
 rw [aAV]
 refine aC (λc2=>?_) (λc2=>?_)<;> try simp only [zD,zA,zE,zC,zF] at c2
 ·rw [show(!cG f)=true by rw [c2];rfl,cond_true] at hk
  subst hk
  refine Wk ?_
  try subst hk
  exact Lf
 rw [show(!cG f)=false by rw [c2];rfl,cond_false] at hk
 refine cC (aUW l f hl) ?_
 refine aC (λc3=>?_) (λc3=>?_)<;> try simp only [zD,zA,zE,zC,zF] at c3
 ·rw [show(!oH l f)=true by rw [c3];rfl,cond_true] at hk
  subst hk
  refine Wk ?_
  try subst hk
  exact Lf
 rw [show(!oH l f)=false by rw [c3];rfl,cond_false] at hk
 refine cC (aGL l.R false f (by omega)) ?_
 rw [atN]
 refine aC (λc4=>?_) (λc4=>?_)<;> try simp only [zD,zA,zE,zC,zF] at c4
 ·have c4:f∉l.R:=by simpa using c4
  rw [show(!decide (f∈l.R))=true by simpa using c4,cond_true] at hk
  subst hk
  refine cC (bHZ l.R false f (by omega) c4) ?_
  try subst hk
  exact Lf
 have c4:f∈l.R:=by simpa using c4
 rw [show(!decide (f∈l.R))=false by simpa using c4,cond_false] at hk
 refine cC (aGL l.I false f (by omega)) ?_
 rw [atM]
 refine aC (λc5=>?_) (λc5=>?_)<;> try simp only [zD,zA,zE,zC,zF] at c5
 ·rw [c5,cond_true] at hk
  rw [aAA (hP.notA (by simpa using c5))] at hk
  subst hk
  refine Wk3 (aUU l.A false f (by omega)) (aKZ l.I false f (by omega)) (aKZ l.R false f (by omega)) ?_
  try subst hk
  exact Lf
 rw [c5,cond_false] at hk
 subst hk
 refine Wk ?_
 try subst hk
 exact Lf
end Go.Proofs.YtmhapcbjjpadnaaGreat
namespace Go.Proofs.YtmhapcbjjpadnaaGreat
open Go Go.Sk Go.RowKit
def aOZ(l:Ls):Int:=l.A.getD (l.A.length-1) 0
def bCH(l:Ls):List Int:=l.A.take (l.A.length-1)
def bLO(l:Ls):Ls:=bif decide (aOZ l∈l.R) then⟨aOZ l::bCH l,l.I,wo l.R (aOZ l)⟩ else⟨bCH l,aOZ l::l.I,l.R⟩
def bGB:Nat->Ls->Ls
 |0,l=>l
 |n+1,l=>bif decide ((l.A.length:Int)<=(l.I.length:Int)) then l else bGB n (bLO l)
def bOK(l:Ls):Ls:=bif !fJ l then l else bGB l.A.length l
end Go.Proofs.YtmhapcbjjpadnaaGreat
namespace Go.Proofs.YtmhapcbjjpadnaaGreat
open Go Go.Sk Go.RowKit
structure ScS where
 I:List Int
 R:List Int
 v:List Int
def bKP(R0 held:List Int)(s:ScS)(f:Int):ScS:=
 bif decide (f∈held) then s else bif decide (f∈R0) then⟨f::wo s.I f,wo s.R f,s.v⟩ else⟨s.I,s.R,s.v++ [f]⟩
def aQ6(R0 held:List Int)(n:Int):List Int->ScS->ScS
 | [],s=>s
 |f::r,s=>bif decide ((s.v.length:Int)<n) then aQ6 R0 held n r (bKP R0 held s f) else s
def bO7(l:Ls)(n:Int)(held:List Int):Ls×List Int:=
 bif !fJ l then(l,[]) else
 (⟨l.A,(aQ6 l.R held n l.I.reverse ⟨l.I,l.R,[]⟩).I,(aQ6 l.R held n l.I.reverse ⟨l.I,l.R,[]⟩).R⟩,(aQ6 l.R held n l.I.reverse ⟨l.I,l.R,[]⟩).v)
structure ScB(l:Ls)(k:Nat)(s:ScS):Prop where
 kk:k<=l.I.length
 i:s.I.length+k<=l.I.length+l.I.length
 r:s.R.length<=l.R.length
 v:s.v.length+k<=l.I.length
def ScR(l:Ls)(k:Nat)(s:ScS):Prop:=∀(j:Nat) (h:j<l.I.length),j<k->(l.I[j]∈s.R↔l.I[j]∈l.R)
end Go.Proofs.YtmhapcbjjpadnaaGreat
namespace Go.Proofs.YtmhapcbjjpadnaaGreat
open Go Go.Sk Go.RowKit Go.Shelf
theorem nU(b:Nat)(ty:TypeId):∀(vs:List Value) (o:Nat) (w:World) (arr:Array Value),w.heap[b]? =some (.cells arr ty (0,0))->
 (w.setCells b o vs).heap[b]? =some (.cells (wrote arr o vs) ty (0,0))/\(w.setCells b o vs).heap.size=w.heap.size/\∀j,j≠b->(w.setCells b o vs).heap[j]? =w.heap[j]?
 | [],_,_,_,h=>⟨h,rfl,λ_ _=>rfl⟩
 |v::r,o,w,arr,h=>by
  have hs:(w.setCell ⟨b,o,none⟩ v).heap[b]? =some (.cells (arr.setIfInBounds o v) ty (0,0)):=by
   unfold World.setCell
   dsimp only
   rw [zM,if_pos rfl,h]
   rfl
  have hz:(w.setCell ⟨b,o,none⟩ v).heap.size=w.heap.size:=by unfold World.setCell;dsimp only;rw [Array.size_modify]
  have ho:∀j,j≠b->(w.setCell ⟨b,o,none⟩ v).heap[j]? =w.heap[j]? :=λj hj=>by
   unfold World.setCell
   dsimp only
   rw [zM,if_neg (λe=>hj e.symm)]
  obtain⟨h1,h2,h3⟩:=nU b ty r (o+1) _ _ hs
  exact⟨h1,h2.trans hz,λj hj=>(h3 j hj).trans (ho j hj)⟩
theorem aN9(l:List Int)(i:Nat)(x:Int)(hi:i<=l.length)(arr:Array Value)(hsz:l.length+1<=arr.size)(ha:∀(j:Nat) (u:Value),(dD l)[j]? =some u->arr[j]? =some u)(j:Nat)(u:Value)(hj:(dD (gQ l i x))[j]? =some u):
 (wrote (wrote arr (i+1) ((dD l).drop i)) i [.int .i64 x])[j]? =some u:=by
 have hv:(dD l).length=l.length:=by simp [dD]
 have hd:((dD l).drop i).length=l.length-i:=by rw [List.length_drop,hv]
 rw [pT _ _ _ _ (by rw [mS];simp;omega),pT _ _ _ _ (by rw [hd];omega),hd]
 have hins:dD (gQ l i x)=(dD l).take i++Value.int .i64 x::(dD l).drop i:=by simp [dD,gQ]
 rw [hins,List.getElem?_append] at hj
 have ht:((dD l).take i).length=i:=by rw [zS,hv];omega
 rw [ht] at hj
 split at hj
 ·rename_i hlt
  rw [if_neg (by simp;omega),if_neg (by omega)]
  rw [List.getElem?_take,if_pos hlt] at hj
  exact ha j u hj
 ·rename_i hge
  by_cases he:j=i
  ·subst he
   rw [if_pos (by simp)]
   simpa using hj
  ·have hj':((dD l).drop i)[j- (i+1)]? =some u:=by
    rw [show j-i=(j- (i+1))+1 by omega,List.getElem?_cons_succ] at hj;exact hj
   obtain⟨hlt,-⟩:=List.getElem?_eq_some_iff.1 hj'
   rw [hd] at hlt
   rw [if_neg (by simp;omega),if_pos (by omega)]
   exact hj'
theorem bEO(l:List Int)(i:Nat)(x:Int)(c:Nat)(hi:i<=l.length)(hc:l.length+1<=c)(hc2:c<=9223372036854775807):
 aM Tryz.prog 287 [.row 1 (aE l),.row 1 [[.int .i64 x]]] [.slk 0 0 l.length c,.int .i64 i,.sl 1 0 1] (.sl 0 0 (l.length+1)) [.row 1 (aE (gQ l i x)),.row 1 [[.int .i64 x]]]:=by
 intro U σ w cargs hR hn hargs
 obtain⟨c0,c1,c2,rfl⟩:∃a b c,cargs= #[a,b,c]:=by
  rcases cargs with ⟨L⟩
  match L,hn with
  | [a,b,c],_=>exact⟨a,b,c,rfl⟩
 have a0:=hargs 0 _ c0 rfl rfl
 have a1:=hargs 1 _ c1 rfl rfl
 have a2:=hargs 2 _ c2 rfl rfl
 generalize hln:l.length=ln at a0 hc⊢
 cases a0 with
 |slk0 h=>omega
 | @slk _ _ _ _ _ b es cap a hs0 hle0 ha0 hcc=>
 subst hln
 cases a1 with
 |int=>
 cases a2 with
 | @sl _ _ _ _ vb es' vcap va hs hle ha=>
 rw [Nat.sub_zero] at hcc
 subst hcc
 have hob0:=hR.obj 0 (.row 1 (aE l)) rfl
 rw [hs0] at hob0
 obtain⟨-,rfl,hcap0,arr0,ty0,hblk0,hasz0,hcells0⟩:=hob0
 have hob:=hR.obj 1 (.row 1 [[.int .i64 x]]) rfl
 rw [hs] at hob
 obtain⟨-,rfl,-,arr,ty,hblk,hasz,hcells⟩:=hob
 obtain⟨xv,hx1,-,hx2⟩:=hcells 0 _ 0 _ rfl rfl
 cases hx2 with
 |int=>
 obtain rfl:=ha (by omega)
 obtain rfl:=ha0 (by omega)
 have hne:vb≠b:=by
  rintro rfl
  have :=hR.inj 0 1 _ _ vb _ _ _ _ rfl rfl hs0 hs
  cases this
 rw [Nat.mul_one] at hasz hasz0
 have hvs:∀(j:Nat) (v:Value),([Value.int .i64 x])[j]? =some v->w.cell? ⟨vb,0*1+j,none⟩=some v:=λj v hj=>by
  cases j with
  |zero=>
   simp only [zK,Option.some.injEq] at hj
   subst hj
   rw [World.cell?,hblk]
   simpa using hx1
  |succ j=>simp at hj
 have harr:∀(j:Nat) (u:Value),(dD l)[j]? =some u->arr0[j]? =some u:=λj u hj=>by
  simp only [dD,zO,zL] at hj
  obtain⟨y,hy,rfl⟩:=hj
  obtain⟨v,q1,-,q3⟩:=hcells0 j [.int .i64 y] 0 (.int .i64 y) (by simp [aE,hy]) rfl
  cases q3
  simpa using q1
 have hcs:∀(j:Nat) (v:Value),(dD l)[j]? =some v->w.cell? ⟨b,0*1+j,none⟩=some v:=λj v hj=>by
  rw [World.cell?,hblk0]
  simpa using harr j v hj
 have hsp:∀j,j<l.length+1->(w.cell? ⟨b,0*1+j,none⟩).isSome=true:=λj hj=>by
  rw [World.cell?,hblk0]
  simp only [zP,zQ]
  rw [Array.getElem?_eq_getElem (by omega)];rfl
 have hfz:∀o,w.frozen? ⟨b,o,none⟩=false:=λo=>by
  rw [World.frozen?,hblk0];simp [mkF]
 have hfv:∀o,w.frozen? ⟨vb,o,none⟩=false:=λo=>by
  rw [World.frozen?,hblk];simp [mkF]
 have one:∀v∈dD l,v.oneCell'=true:=λv hv=>by
  simp only [dD,List.mem_map] at hv;obtain⟨y,-,rfl⟩:=hv;rfl
 have fin:∀(w':World),w'.os=w.os->w'.tape=w.tape->w'.output=w.output->w'.heap.size=w.heap.size->(∀j,j≠b->w'.heap[j]? =w.heap[j]?)->w'.heap[b]? =some (.cells (wrote (wrote arr0 (i+1) ((dD l).drop i)) i [.int .i64 x]) ty0.1 (0,0))->
  ∃cv σ',(Ending.returned (.slice (some ⟨b,0*1,none⟩) (l.length+1) c))=.returned cv/\aW U σ' (aN 0 [.row 1 (aE (gQ l i x)),.row 1 [[.int .i64 x]]]) w' 2/\VR (Own U σ' (aN 0 [.row 1 (aE (gQ l i x)),.row 1 [[.int .i64 x]]])) w' σ' (.sl 0 0 (l.length+1)) cv/\
   bV σ (aN 0 [.row 1 (aE l),.row 1 [[.int .i64 x]]]) w 2 σ' (aN 0 [.row 1 (aE (gQ l i x)),.row 1 [[.int .i64 x]]]) w' 2:=λw' e1 e2 e3 e4 e5 e6=>by
  obtain⟨g,r⟩:=hR.write (k:=0) (o0:=.row 1 (aE l)) (o:=.row 1 (aE (gQ l i x))) rfl hs0 e1 e2 e3 e4 e5 (λg=>by
   refine⟨λy hy=>?_,rfl,⟨by rw [aA,kV];omega,hcap0.2⟩,_,ty0,e6,by rw [mS,mS];omega,λj y k u hy hu=>?_⟩
   ·simp only [aE,List.mem_map] at hy;obtain⟨z,-,rfl⟩:=hy;rfl
   ·simp only [aE,zO,zL] at hy
    obtain⟨z,hz,rfl⟩:=hy
    cases k with
    |succ k=>simp at hu
    |zero=>
     simp only [zK,Option.some.injEq] at hu
     subst hu
     refine⟨.int .i64 z,?_,rfl,.int _ _⟩
     rw [Nat.mul_one,Nat.add_zero]
     exact aN9 l i x hi arr0 (by omega) harr j _ (by simp [dD,hz]))
  exact⟨_,σ,rfl,r,.sl hs0 (by omega) (λ_=>rfl),g⟩
 by_cases he:i=l.length
 ·subst he
  refine(Any2.slices_Insert_int_end_room aHZ b (0*1) l.length c vb (0*1) 1 (vcap-0) [.int .i64 x] w (by omega) (by omega) hc2 rfl (λj hj=>by rw [Nat.add_assoc];exact hsp _ (by omega)) (λj _=>hfz _) hvs (by simp [aZ3])).mono ?_
  rintro e w' ⟨rfl,rfl⟩
  obtain⟨h1,h2,h3⟩:=nU b ty0.1 [.int .i64 x] (0*1+l.length) w arr0 hblk0
  obtain⟨o1,o2,o3⟩:=iY b [.int .i64 x] (0*1+l.length) w
  refine fin _ o1 o2 o3 h2 h3 ?_
  rw [h1,zP,zQ,List.drop_of_length_le (by simp [dD])]
  rfl
 ·refine(Any2.slices_Insert_int_shift aHZ b (0*1) l.length c i vb (0*1) 1 (vcap-0) (dD l) [.int .i64 x] w (by omega) (by omega) (by omega) hc2 hne (by simp [dD]) rfl hcs hsp (λj _=>hfz _) hvs one (by simp [aZ3]) ty.1 ty0.1 arr.size arr0.size
   (by rw [World.shape?,hblk]) (by rw [World.shape?,hblk0]) (by omega) (hfv _) (hfv _)).mono ?_
  rintro e w' ⟨rfl,rfl⟩
  have hb0:w.drew.heap[b]? =some (.cells arr0 ty0.1 (0,0)):=hblk0
  obtain⟨h1,h2,h3⟩:=nU b ty0.1 ((dD l).drop i) (0*1+(i+1)) w.drew arr0 hb0
  obtain⟨o1,o2,o3⟩:=iY b ((dD l).drop i) (0*1+(i+1)) w.drew
  obtain⟨h1',h2',h3'⟩:=nU b ty0.1 [.int .i64 x] (0*1+i) _ _ h1
  obtain⟨o1',o2',o3'⟩:=iY b [.int .i64 x] (0*1+i) (w.drew.setCells b (0*1+(i+1)) ((dD l).drop i))
  refine fin _ (o1'.trans o1) (o2'.trans o2) (o3'.trans o3) (h2'.trans h2) (λj hj=>(h3' j hj).trans (h3 j hj)) ?_
  rw [h1']
  simp only [zP,zQ]
end Go.Proofs.YtmhapcbjjpadnaaGreat
namespace Go.Proofs.YtmhapcbjjpadnaaGreat
open Go Go.Sk Go.RowKit
theorem bB9(l:Ls)(f:Int)(hl:eL l):aM Tryz.prog 201 [] [.agg l.c,.int .i64 f] (.tup [.agg (mW l f).1.c,.int .i64 (mW l f).2]) []:=by
 have h1:=hl.a;have h2:=hl.i;have h3:=hl.r
 refine aF (ob0:= []) [.v 35,.r 49] Tryz.func201 rfl rfl rfl rfl ?_
 generalize hk:mW l f=q
 rw [mW] at hk
 refine Wk ?_
 refine .inr ⟨λ_=>⟨[],_,_,_,bEM l hl,trivial,rfl,rfl,rfl,?_⟩,(by intro h;cases h)⟩
 refine cC (aV5 l f hl) ?_
 refine aC (λc1=>?_) (λc1=>?_)<;> try simp only [zD,zA,zE,zC,zF] at c1
 ·rw [<-aCG (λe=>(l,e)) _ c1] at hk
  subst hk
  refine Wk ?_
  refine⟨[],trivial,rfl,trivial,rfl,?_⟩
  try subst hk
  repeat' (first |exact trivial |rfl |exact .inl rfl |exact .inr rfl |exact id |exact(λh=>Bool.noConfusion h)|refine And.intro ?_ ?_)
  ·show 0+l.R.length<=_
   rw [aA];omega
  ·exact dB (aA _)
 obtain⟨e1,e2⟩:=aLZ c1
 have hP:=(gL l).1 e1
 rw [e1,e2] at hk
 simp only [zN,cond_false] at hk
 refine cC (aV6 l f hl) ?_
 refine aC (λc2=>?_) (λc2=>?_)<;> try simp only [zD,zA,zE,zC,zF] at c2
 ·rw [show(!oH l f)=true by rw [c2];rfl,cond_true] at hk
  subst hk
  refine Wk ?_
  refine⟨[],trivial,rfl,trivial,rfl,?_⟩
  try subst hk
  repeat' (first |exact trivial |rfl |exact .inl rfl |exact .inr rfl |exact id |exact(λh=>Bool.noConfusion h)|refine And.intro ?_ ?_)
  ·show 0+l.R.length<=_
   rw [aA];omega
  ·exact dB (aA _)
 rw [show(!oH l f)=false by rw [c2];rfl,cond_false] at hk
 have key:aM Tryz.prog 286 [] [.lst 1 false (((aE l.R).drop 0).take l.R.length),.int .i64 f] (.tup [.int .i64 (eW l.R f),.bool (aAS l.R f)]) []:=by rw [dB (aA l.R)];exact bBV l.R false f (by omega) hP.asc
 have hhit:=aHS hP.asc f
 have hat:=uE l.R f
 refine Wk ?_
 refine .inl ⟨_,λ_=>⟨?_,key⟩,.inr rfl,?_⟩
 ·intro v hv
  have hv:v∈ [V.sl 2 0 l.R.length,V.int .i64 f]:=hv
  rcases List.mem_cons.1 hv with rfl |hv
  ·show 0+l.R.length<=(aE l.R).length
   rw [aA];omega
  ·obtain rfl:=List.mem_singleton.1 hv
   exact trivial
 refine Wk ?_
 refine aC (λc3=>?_) (λc3=>?_)<;> try simp only [zD,zA,zE,zC,zF] at c3
 ·have c3:f∉l.R:=by rw [<-hhit];simpa using c3
  rw [show(!decide (f∈l.R))=true by simpa using c3,cond_true] at hk
  refine Wk ?_
  refine⟨Option Nat,λ|none=>True |some c=>l.R.length+1<=c/\c<=9223372036854775807,
   fun |none=>⟨[(1,⟨[],true,.int .i64 f⟩),(4,⟨[],true,.ptr 0 0 0⟩),(6,⟨[],true,.ptr 1 0 0⟩),(8,⟨[],true,.int .i64 (eW l.R f:Int)⟩),(35,⟨[],true,.lst 1 true (aE l.R)⟩)],[(0,.box [.lst 0 true [],.lst 0 true [],.lst 0 true []]),(1,.box [.lst 1 false (aE l.A),.lst 1 false (aE l.I),.lst 1 false (aE l.R)])],2⟩
       |some c=>⟨[(1,⟨[],true,.int .i64 f⟩),(4,⟨[],true,.ptr 0 0 0⟩),(6,⟨[],true,.ptr 1 0 0⟩),(8,⟨[],true,.int .i64 (eW l.R f:Int)⟩),(35,⟨[],true,.slk 2 0 l.R.length c⟩)],[(0,.box [.lst 0 true [],.lst 0 true [],.lst 0 true []]),(1,.box [.lst 1 false (aE l.A),.lst 1 false (aE l.I),.sl 2 0 l.R.length]),(2,.row 1 (aE l.R))],3⟩,?_,λx hx=>?_⟩
  ·refine Wk ?_
   intro c hc hc2
   by_cases hcn:c=l.R.length
   ·subst hcn
    refine⟨none,trivial,?_⟩
    refine bX [some 1,some 18] rfl rfl ?_ rfl ?_ rfl ?_
    repeat' (first |exact trivial |rfl |exact .inl rfl |exact .inr rfl |exact id |exact(λh=>Bool.noConfusion h)|refine And.intro ?_ ?_)
    ·show 0+l.R.length<=_
     rw [aA];omega
    ·exact dB (aA _)
    ·exact λ_=>rfl
    ·show 0+l.R.length<=_
     rw [aA];omega
    ·exact dB (aA _)
   refine⟨some c,⟨by omega,hc2⟩,?_⟩
   exact Vw [some 1,some 18,some 2]
  cases x with
  |none=>
   refine Wk ?_
   refine .inr ⟨λ_=>⟨[2],_,_,_,bBW l.R (eW l.R f) f hat (by omega),⟨rfl,trivial⟩,rfl,rfl,rfl,?_⟩,(by intro h;cases h)⟩
   subst hk
   refine Wk ?_
   try subst hk
   exact Lf
  |some c=>
   obtain⟨x1,x2⟩:=hx
   refine Wk ?_
   refine .inr ⟨λ_=>⟨[2,3],_,_,_,bEO l.R (eW l.R f) f c hat x1 x2,⟨rfl,rfl,trivial⟩,rfl,rfl,rfl,?_⟩,(by intro h;cases h)⟩
   subst hk
   refine Wk ?_
   refine⟨[],trivial,rfl,trivial,rfl,?_⟩
   try subst hk
   repeat' (first |exact trivial |rfl |exact .inl rfl |exact .inr rfl |exact id |exact(λh=>Bool.noConfusion h)|refine And.intro ?_ ?_)
   ·show 0+(l.R.length+1)<=_
    rw [aA,kV];omega
   ·exact dB (by rw [aA,kV])
 have c3:f∈l.R:=by rw [<-hhit];simpa using c3
 rw [show(!decide (f∈l.R))=false by simpa using c3,cond_false] at hk
 refine cC (aV1 l.I false f (by omega)) ?_
 refine aC (λc4=>?_) (λc4=>?_)<;> try simp only [zD,zA,zE,zC,zF] at c4
 ·rw [c4,cond_true] at hk
  subst hk
  refine Wk ?_
  refine⟨Unit,λ_=>True,λ_=>⟨[(1,⟨[],true,.int .i64 f⟩),(4,⟨[],true,.ptr 0 0 0⟩),(6,⟨[],true,.ptr 1 0 0⟩)],[(0,.box [.lst 0 true [],.lst 0 true [],.lst 0 true []]),(1,.box [.lst 1 false (aE l.A),.lst 1 false (aE (wo l.I f)),.lst 1 false (aE l.R)])],2⟩,?_,λ_ _=>?_⟩
  ·refine cC (aGN l.I false f (by omega)) ?_
   refine⟨(),trivial,?_⟩
   refine bX [some 1,some 18] rfl rfl ?_ rfl ?_ rfl ?_
   repeat' (first |exact trivial |rfl |exact .inl rfl |exact .inr rfl |exact id |exact(λh=>Bool.noConfusion h)|refine And.intro ?_ ?_)
   ·show 0+l.R.length<=_
    rw [aA];omega
   ·exact dB (aA _)
  refine Wk2 (aV7 l.A false f (by omega)) (aGN l.R false f (by omega)) ?_
  try subst hk
  exact Lf
 rw [c4,cond_false] at hk
 subst hk
 refine Wk ?_
 refine⟨[],trivial,rfl,trivial,rfl,?_⟩
 try subst hk
 repeat' (first |exact trivial |rfl |exact .inl rfl |exact .inr rfl |exact id |exact(λh=>Bool.noConfusion h)|refine And.intro ?_ ?_)
 ·show 0+l.R.length<=_
  rw [aA];omega
 ·exact dB (aA _)
end Go.Proofs.YtmhapcbjjpadnaaGreat
