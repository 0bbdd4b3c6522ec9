/- Caches. -/
import Derived.Test.YtmhapcbjjpadnaaGreatG4
set_option linter.unusedSimpArgs false
set_option linter.unusedVariables false
open Bool renaming cond_false_right→zA,cond_true_left→zC,not_eq_true'→zD,not_eq_false'→zE,not_not→zG,and_eq_true→zL,eq_iff_iff→zQ,true_and→zT
open Int renaming toNat_natCast→zH,natCast_nonneg→zJ,le_refl→zX
open List renaming length_append→zF,take_succ_eq_append_getElem→zI,take_length→zK,length_set→zM,replicate→zN,getElem?_eq_getElem→zO,length_take→zP,length_singleton→zR,getElem_of_mem→zS,map_take→zU,filter_append→zV,getElem?_drop→zW,take→zY,drop→zZ
set_option maxRecDepth 40000
namespace Go.Proofs.YtmhapcbjjpadnaaGreat
open Go Go.Sk Go.RowKit
def wo(l:List Int)(x:Int):List Int:=l.filter (fun y=>y != x)
theorem aFK(l:List Int)(t:Bool)(x:Int)(hl:(l.length:Int)<2^62):aN Tryz.prog 196 [] [.lst 1 t (aE l),.int .i64 x] (.int .i64 (dI (fun y=>y==x) l)) []:=by
 refine aF (ob0:= []) [] Tryz.func196 rfl rfl rfl rfl ?_
 generalize hk:dI (fun y=>y==x) l=q
 refine Wk ?_
 refine⟨Nat,fun i=>i≤l.length∧∀j (hj:j<i) (h:j<l.length),(l[j]==x)=false,fun i=>⟨[(0,⟨[],true,.lst 1 t (aE l)⟩),(1,⟨[],true,.int .i64 x⟩),(4,⟨[],true,.int .i64 0⟩),(5,⟨[],true,.int .i64 (i:Int)⟩)],[],0⟩,fun i=>l.length-i,⟨0,⟨by omega,fun j hj=>by omega⟩,?_⟩,fun i hI=>?_⟩
 ·exact Vw []
 obtain⟨hI1,hI2⟩:=hI
 refine Wk ?_
 rw [aA]
 refine aC (fun h2=>?_) (fun h2=>?_)<;> try simp only [zC,zA,zD,zE,zG] at h2
 ·have h2:i<l.length:=by simp at h2;omega
  refine Wk ?_
  first |refine aB (⟨rfl,by omega,by rw [aA];omega⟩) ?_ |refine aH (fun _=>⟨rfl,by omega,by rw [aA];omega⟩) ?_ |refine⟨fun _=>⟨rfl,by omega,by rw [aA];omega⟩,?_⟩
  rw [zH,bJ l i h2]
  refine Wk ?_
  refine aC (fun h3=>?_) (fun h3=>?_)<;> try simp only [zC,zA,zD,zE,zG] at h3
  ·have :q=i:=by rw [←hk];exact oX _ l i h2 (fun j hj=>hI2 j hj (by omega)) h3
   subst this
   refine Wk ?_
   try subst hk
   exact Lf
  refine Wk ?_
  rw [aO (n:=(i:Int)+1) (by omega) (by omega),show((i:Int)+1)=((i+1:Nat):Int) by omega]
  refine⟨i+1,⟨by omega,fun j hj h=>?_⟩,?_,by show l.length- (i+1)<l.length-i;omega⟩
  ·by_cases e:j=i
   ·subst e;exact h3
   ·exact hI2 j (by omega) h
  exact Vw []
 have h2:i=l.length:=by simp at h2;omega
 have :q= -1:=by rw [←hk];exact jI _ l fun y hy=>by obtain⟨j,hj,rfl⟩:=zS hy;exact hI2 j (by omega) hj
 subst this
 refine Wk ?_
 try subst hk
 exact Lf
theorem atM(l:List Int)(x:Int):decide (0≤dI (fun y=>y==x) l)=decide (x∈l):=by
 have :(fun y=>y==x)=(fun y=>x==y):=by funext y;rw [zQ];simp only [beq_iff_eq];exact eq_comm
 rw [this];exact bED l x
theorem atN(l:List Int)(x:Int):decide (dI (fun y=>y==x) l<0)=decide (x∉l):=by
 have :=atM l x
 rw [zQ,decide_eq_true_eq,decide_eq_true_eq] at this
 rw [zQ,decide_eq_true_eq,decide_eq_true_eq,←this]
 omega
theorem aTD(l:List Int)(t:Bool)(x:Int)(hl:l.length≤100000):aN Tryz.prog 197 [] [.lst 1 t (aE l),.int .i64 x] (.lst 1 false (aE (x::l))) []:=by
 refine aF (ob0:= []) [] Tryz.func197 rfl rfl rfl rfl ?_
 refine Wk ?_
 rw [aA]
 first |refine bA (by show((1+l.length:Nat):Int)≤_;omega) (by show(1+l.length)*8≤_;omega) ?_ |refine aB ⟨by show((1+l.length:Nat):Int)≤_;omega,by show(1+l.length)*8≤_;omega⟩ ?_ |refine⟨by show((1+l.length:Nat):Int)≤_;omega,by show(1+l.length)*8≤_;omega,?_⟩
 refine Wk ?_
 refine⟨[],trivial,rfl,trivial,rfl,?_⟩
 try subst hk
 repeat' (first |exact trivial |rfl |exact .inl rfl |exact .inr rfl |exact id |exact(fun h=>Bool.noConfusion h)|refine And.intro ?_ ?_)
 ·show 0+(1+l.length)≤([[V.int .i64 x]]++aE l).length
  rw [zF,aA];simp
 ·show zY (1+l.length) (zZ 0 ([[V.int .i64 x]]++aE l))=aE (x::l)
  exact cV (by rw [zF,aA];simp)
def cF(f:Int):Bool:=decide (1≤f)&&decide (f≤64)
theorem bA3(f:Int):aN Tryz.prog 309 [] [.int .i64 f] (.bool (cF f)) []:=by
 refine aF (ob0:= []) [] Tryz.func309 rfl rfl rfl rfl ?_
 refine Wk ?_
 refine⟨[],trivial,rfl,trivial,rfl,?_⟩
 try subst hk
 repeat' (first |exact trivial |rfl |exact .inl rfl |exact .inr rfl |exact id |exact(fun h=>Bool.noConfusion h)|refine And.intro ?_ ?_)
 unfold cF;cases decide (1≤f)<;> rfl
theorem bA8(y x:Int):aN Tryz.prog 338 [] [.int .i64 y,.rp 1 [.int .i64 x] 0] (.bool (y==x)) []:=by
 refine aF (ob0:= []) [] Tryz.func338 rfl rfl rfl rfl ?_
 refine Wk ?_
 try subst hk
 exact Lf
theorem call83:fW Tryz.prog 338:=⟨_,Tryz.func338,rfl,rfl⟩
theorem aX3(a b:List Int)(ta tb:Bool)(ha:(a.length:Int)<2^62)(hb:(b.length:Int)<2^62):aN Tryz.prog 91 [] [.lst 1 ta (aE a),.lst 1 tb (aE b)] (.bool (decide (a=b))) []:=by
 refine aF (ob0:= []) [] Tryz.func91 rfl rfl rfl rfl ?_
 generalize hk:decide (a=b)=q
 refine Wk ?_
 rw [aA,aA]
 refine aC (fun h1=>?_) (fun h1=>?_)<;> try simp only [zC,zA,zD,zE,zG] at h1
 ·have h1:a.length≠b.length:=by simp at h1;omega
  have :q=false:=by rw [←hk,decide_eq_false_iff_not];rintro rfl;exact h1 rfl
  subst this
  refine Wk ?_
  try subst hk
  exact Lf
 have h1:a.length=b.length:=by simp at h1;omega
 refine Wk ?_
 refine⟨Nat,fun i=>i≤a.length∧∀j (h:j<a.length) (h':j<b.length),j<i→a[j]=b[j],fun i=>⟨[(0,⟨[],true,.lst 1 ta (aE a)⟩),(1,⟨[],true,.lst 1 tb (aE b)⟩),(5,⟨[],true,.int .i64 (i:Int)⟩)],[],0⟩,fun i=>a.length-i,⟨0,⟨by omega,fun j _ _ h=>by omega⟩,?_⟩,fun i hI=>?_⟩
 ·exact Vw []
 obtain⟨hI1,hI2⟩:=hI
 refine Wk ?_
 rw [aA]
 refine aC (fun h2=>?_) (fun h2=>?_)<;> try simp only [zC,zA,zD,zE,zG] at h2
 ·have h2:i<a.length:=by simp at h2;omega
  have h2':i<b.length:=by omega
  refine Wk ?_
  first |refine aB (⟨rfl,by omega,by rw [aA];omega⟩) ?_ |refine aH (fun _=>⟨rfl,by omega,by rw [aA];omega⟩) ?_ |refine⟨fun _=>⟨rfl,by omega,by rw [aA];omega⟩,?_⟩
  rw [zH,bJ a i h2]
  refine Wk ?_
  first |refine aB (⟨rfl,by omega,by rw [aA];omega⟩) ?_ |refine aH (fun _=>⟨rfl,by omega,by rw [aA];omega⟩) ?_ |refine⟨fun _=>⟨rfl,by omega,by rw [aA];omega⟩,?_⟩
  rw [zH,bJ b i h2']
  refine Wk ?_
  refine aC (fun h3=>?_) (fun h3=>?_)<;> try simp only [zC,zA,zD,zE,zG] at h3
  ·have :q=false:=by rw [←hk,decide_eq_false_iff_not];rintro rfl;simp at h3
   subst this
   refine Wk ?_
   try subst hk
   exact Lf
  have h3:a[i]=b[i]:=by simpa using h3
  refine Wk ?_
  rw [aO (n:=(i:Int)+1) (by omega) (by omega),show((i:Int)+1)=((i+1:Nat):Int) by omega]
  refine⟨i+1,⟨by omega,fun j h h' hj=>?_⟩,?_,by show a.length- (i+1)<a.length-i;omega⟩
  ·by_cases e:j=i
   ·subst e;exact h3
   ·exact hI2 j h h' (by omega)
  exact Vw []
 have h2:i=a.length:=by simp at h2;omega
 have :q=true:=by
  rw [←hk,decide_eq_true_eq]
  exact List.ext_getElem h1 fun j h h'=>hI2 j h h' (by omega)
 subst this
 refine Wk ?_
 try subst hk
 exact Lf
end Go.Proofs.YtmhapcbjjpadnaaGreat
set_option maxRecDepth 40000
namespace Go.Proofs.YtmhapcbjjpadnaaGreat
open Go Go.Sk Go.RowKit
theorem aMS(l:List Int)(x:Int):(wo l x).length≤l.length:=List.length_filter_le _ _
theorem fJ {l:List Int} {x y:Int} :y∈wo l x↔y∈l∧y≠x:=by simp [wo]
theorem aI3 {l:List Int} {x:Int} {i:Nat} (h:i<l.length)(hx:l[i]≠x):wo (l.take (i+1)) x=wo (l.take i) x++ [l[i]]:=by
 rw [zI h,wo,wo,zV]
 simp [hx]
theorem aCE {l:List Int} {x:Int} {i:Nat} (h:i<l.length)(hx:l[i]=x):wo (l.take (i+1)) x=wo (l.take i) x:=by
 rw [zI h,wo,wo,zV]
 simp [hx]
theorem pP {l:List Int} {x:Int} (h:x∉l):wo l x=l:=by
 rw [wo,List.filter_eq_self]
 intro y hy
 simp only [bne_iff_ne]
 rintro rfl;exact h hy
theorem rP(l:List Int)(x:Int)(i:Nat):(wo (l.take i) x).length≤i:=Nat.le_trans (aMS _ _) (by simp;omega)
set_option maxRecDepth 20000 in
theorem aJX(l:List Int)(t:Bool)(x:Int)(hl:l.length≤100000):aN Tryz.prog 198 [] [.lst 1 t (aE l),.int .i64 x] (.lst 1 false (aE (wo l x))) []:=by
 refine aF (ob0:= []) [] Tryz.func198 rfl rfl rfl rfl ?_
 generalize hk:wo l x=q
 refine Wk ?_
 refine⟨Nat,fun i=>i≤l.length,fun i=>⟨[(0,⟨[],true,.lst 1 t (aE l)⟩),(1,⟨[],true,.int .i64 x⟩),(5,⟨[],true,.sl 0 0 (wo (l.take i) x).length⟩),(6,⟨[],true,.int .i64 (i:Int)⟩)],[(0,.row 1 (aE (wo (l.take i) x)))],1⟩,fun i=>l.length-i,⟨0,by omega,?_⟩,fun i hI=>?_⟩
 ·exact Vw [none]
 have hI:i≤l.length:=hI
 have hwl:=rP l x i
 refine Wk ?_
 rw [aA]
 refine aC (fun h2=>?_) (fun h2=>?_)<;> try simp only [zC,zA,zD,zE,zG] at h2
 ·have h2:i<l.length:=by simp at h2;omega
  have hw:IntKind.i64.wrap ((i:Int)+1)=((i+1:Nat):Int):=by rw [aO (by omega) (by omega)];omega
  have hkeep:=aI3 (x:=x) h2
  have hskip:=aCE (x:=x) h2
  refine Wk ?_
  first |refine aB (⟨rfl,by omega,by rw [aA];omega⟩) ?_ |refine aH (fun _=>⟨rfl,by omega,by rw [aA];omega⟩) ?_ |refine⟨fun _=>⟨rfl,by omega,by rw [aA];omega⟩,?_⟩
  rw [zH,bJ l i h2]
  refine Wk ?_
  generalize hout:wo (l.take i) x=out at hwl hkeep hskip⊢
  refine aC (fun h3=>?_) (fun h3=>?_)<;> try simp only [zC,zA,zD,zE,zG] at h3
  ·have h3:l[i]≠x:=by simpa using h3
   have hkeep:=hkeep h3
   refine Wk ?_
   first |refine aB (⟨rfl,by omega,by rw [aA];omega⟩) ?_ |refine aH (fun _=>⟨rfl,by omega,by rw [aA];omega⟩) ?_ |refine⟨fun _=>⟨rfl,by omega,by rw [aA];omega⟩,?_⟩
   rw [zH,bJ l i h2]
   refine Wk ?_
   first |refine aB ((aA out).symm) (bA (by show(((aE out).length+1:Nat):Int)≤_;rw [aA];omega) (by show((aE out).length+1)*8≤_;rw [aA];omega) ?_)|refine aB ⟨(aA out).symm,by show(((aE out).length+1:Nat):Int)≤_;rw [aA];omega,by show((aE out).length+1)*8≤_;rw [aA];omega⟩ ?_ |refine⟨(aA out).symm,by show(((aE out).length+1:Nat):Int)≤_;rw [aA];omega,by show((aE out).length+1)*8≤_;rw [aA];omega,?_⟩
   refine Wk ?_
   rw [hw]
   refine⟨i+1,by show i+1≤_;omega,?_,by show l.length- (i+1)<l.length-i;omega⟩
   dsimp only
   rw [hkeep]
   refine bT [some ?k54_0] rfl rfl ?h3_54 ?h4_54 ?h5_54 ?h6_54 ?h7_54
   case' h7_54=>repeat' (first |exact trivial |rfl |exact .inl rfl |exact .inr rfl |exact id |exact(fun h=>Bool.noConfusion h)|refine And.intro ?_ ?_)
   case' h4_54=>rfl
   case' h6_54=>rfl
   case' h3_54=>repeat' (first |exact trivial |rfl |exact .inl rfl |exact .inr rfl |exact id |exact(fun h=>Bool.noConfusion h)|refine And.intro ?_ ?_)
   case' h5_54=>repeat' (first |exact trivial |rfl |exact .inl rfl |exact .inr rfl |exact id |exact(fun h=>Bool.noConfusion h)|refine And.intro ?_ ?_)
   ·exact fK out _
   ·show(aE out).length+1=_
    rw [aA,zF];rfl
  have h3:l[i]=x:=by simpa using h3
  have hskip:=hskip h3
  refine Wk ?_
  rw [hw]
  refine⟨i+1,by show i+1≤_;omega,?_,by show l.length- (i+1)<l.length-i;omega⟩
  dsimp only
  rw [hskip]
  exact Vw [some 0]
 have h2:i=l.length:=by simp at h2;omega
 subst h2
 rw [zK,hk]
 refine Wk ?_
 refine⟨[],trivial,rfl,trivial,rfl,?_⟩
 try subst hk
 repeat' (first |exact trivial |rfl |exact .inl rfl |exact .inr rfl |exact id |exact(fun h=>Bool.noConfusion h)|refine And.intro ?_ ?_)
 ·show 0+(wo l x).length≤_
  rw [aA];omega
 ·exact cV (aA _)
set_option maxRecDepth 20000 in
set_option maxHeartbeats 1000000 in
theorem bFQ(l:List Int)(t:Bool)(f:Int)(hl:l.length≤100000)(hn:f∉l):aN Tryz.prog 204 [] [.lst 1 t (aE l),.int .i64 f] (.lst 1 false (aE (gG l (eJ l f) f))) []:=by
 have hpl:=sZ l f
 refine aF (ob0:= []) [.c 23,.c 36] Tryz.func204 rfl rfl rfl rfl ?_
 refine Wk ?_
 refine⟨Nat×List Int,fun y=>y.1≤l.length∧y.2=nJ l f y.1,fun y=>⟨[(0,⟨[],true,.lst 1 t (aE l)⟩),(1,⟨[],true,.int .i64 f⟩),(5,⟨[],true,.sl 0 0 y.2.length⟩),(6,⟨[],true,.bool (decide (eJ l f<y.1))⟩),(7,⟨[],true,.int .i64 (y.1:Int)⟩)],
  [(0,.row 1 (aE y.2))],1⟩,fun y=>l.length-y.1,⟨(0,[]),⟨by simp,by show []=nJ l f 0;rw [nJ,if_pos (by omega),List.take_zero]⟩,?_⟩,fun y hk'=>?_⟩
 ·exact Vw [none]
 obtain⟨k,acc⟩:=y
 obtain⟨hk1,hacc⟩:=hk'
 dsimp only at hk1 hacc⊢
 have hal:=aI9 l f k hk1
 refine Wk ?_
 rw [aA]
 refine aC (fun h5=>?_) (fun h5=>?_)<;> try simp only [zC,zA,zD,zE,zG] at h5
 ·have h5:k<l.length:=by simp at h5;omega
  have h6:l.getD k 0≠f:=by
   intro e;rw [←eY l k h5] at e;exact hn (e▸List.getElem_mem h5)
  refine Wk ?_
  generalize hm:(bif decide (eJ l f=k) then acc++ [f] else acc)=mid
  refine⟨Unit,fun _=>True,fun _=>⟨[(0,⟨[],true,.lst 1 t (aE l)⟩),(1,⟨[],true,.int .i64 f⟩),(5,⟨[],true,.sl 0 0 mid.length⟩),(6,⟨[],true,.bool (decide (eJ l f<k+1))⟩),(7,⟨[],true,.int .i64 (k:Int)⟩)],[(0,.row 1 (aE mid))],1⟩,?_,fun _ _=>?_⟩
  ·refine Wk ?_
   first |refine aB (⟨rfl,zJ k,by rw [aA];omega⟩) ?_ |refine aH (fun _=>⟨rfl,zJ k,by rw [aA];omega⟩) ?_ |refine⟨fun _=>⟨rfl,zJ k,by rw [aA];omega⟩,?_⟩
   rw [dN l k h5]
   refine Wk ?_
   refine aC (fun h7=>?_) (fun h7=>?_)<;> try simp only [zC,zA,zD,zE,zG] at h7
   ·have h7:(!decide (eJ l f<k)&&decide (f<l.getD k 0))=true:=by simpa using h7
    have e7:eJ l f=k:=by
     simp only [zL,zD,decide_eq_false_iff_not,decide_eq_true_eq] at h7
     have :=fun h=>aGD l f k h
     omega
    have hm:acc++ [f]=mid:=by rw [←hm,show decide (eJ l f=k)=true by simpa using e7];rfl
    subst hm
    refine Wk ?_
    first |refine aB ((aA acc).symm) (bA (by show(((aE acc).length+1:Nat):Int)≤_;rw [aA,hacc];omega) (by show((aE acc).length+1)*8≤_;rw [aA,hacc];omega) ?_)|refine aB ⟨(aA acc).symm,by show(((aE acc).length+1:Nat):Int)≤_;rw [aA,hacc];omega,by show((aE acc).length+1)*8≤_;rw [aA,hacc];omega⟩ ?_ |refine⟨(aA acc).symm,by show(((aE acc).length+1:Nat):Int)≤_;rw [aA,hacc];omega,by show((aE acc).length+1)*8≤_;rw [aA,hacc];omega,?_⟩
    refine Wk ?_
    refine⟨(),trivial,?_⟩
    refine bT [some ?k119_0] rfl rfl ?h3_119 ?h4_119 ?h5_119 ?h6_119 ?h7_119
    case' h7_119=>repeat' (first |exact trivial |rfl |exact .inl rfl |exact .inr rfl |exact id |exact(fun h=>Bool.noConfusion h)|refine And.intro ?_ ?_)
    case' h4_119=>rfl
    case' h6_119=>rfl
    case' h3_119=>repeat' (first |exact trivial |rfl |exact .inl rfl |exact .inr rfl |exact id |exact(fun h=>Bool.noConfusion h)|refine And.intro ?_ ?_)
    case' h5_119=>repeat' (first |exact trivial |rfl |exact .inl rfl |exact .inr rfl |exact id |exact(fun h=>Bool.noConfusion h)|refine And.intro ?_ ?_)
    ·exact fK acc f
    ·show(aE acc).length+1=_
     rw [aA,zF];rfl
    ·show true=decide (eJ l f<k+1)
     simp;omega
   have h7:(!decide (eJ l f<k)&&decide (f<l.getD k 0))=false:=by simpa using h7
   have e7:eJ l f≠k:=by
    intro e
    have :=aGC l f (by omega)
    rw [e] at this
    rw [e,show decide (k<k)=false by simp,Bool.not_false,zT,decide_eq_false_iff_not] at h7
    omega
   have hm:acc=mid:=by rw [←hm,show decide (eJ l f=k)=false by simpa using e7];rfl
   subst hm
   refine Wk ?_
   refine⟨(),trivial,?_⟩
   refine bT [some 0] rfl rfl ?_ rfl ?_ rfl ?_
   repeat' (first |exact trivial |rfl |exact .inl rfl |exact .inr rfl |exact id |exact(fun h=>Bool.noConfusion h)|refine And.intro ?_ ?_)
   exact decide_eq_decide.2 (by show eJ l f<k↔eJ l f<k+1;omega)
  refine Wk ?_
  have hml:mid.length≤k+2:=by
   rw [←hm]
   cases decide (eJ l f=k) with
   |true=>show(acc++ [f]).length≤_;rw [hacc];have :=hal;simp;omega
   |false=>show acc.length≤_;rw [hacc];omega
  first |refine aB (⟨rfl,zJ k,by rw [aA];omega⟩) ?_ |refine aH (fun _=>⟨rfl,zJ k,by rw [aA];omega⟩) ?_ |refine⟨fun _=>⟨rfl,zJ k,by rw [aA];omega⟩,?_⟩
  rw [dN l k h5]
  refine Wk ?_
  first |refine aB ((aA mid).symm) (bA (by show(((aE mid).length+1:Nat):Int)≤_;rw [aA];omega) (by show((aE mid).length+1)*8≤_;rw [aA];omega) ?_)|refine aB ⟨(aA mid).symm,by show(((aE mid).length+1:Nat):Int)≤_;rw [aA];omega,by show((aE mid).length+1)*8≤_;rw [aA];omega⟩ ?_ |refine⟨(aA mid).symm,by show(((aE mid).length+1:Nat):Int)≤_;rw [aA];omega,by show((aE mid).length+1)*8≤_;rw [aA];omega,?_⟩
  refine Wk ?_
  rw [aO (n:=(k:Int)+1) (by omega) (by omega),show((k:Int)+1)=((k+1:Nat):Int) by omega]
  have hnext:mid++ [l.getD k 0]=nJ l f (k+1):=by
   by_cases e:eJ l f=k
   ·rw [←hm,show decide (eJ l f=k)=true by simpa using e,cond_true,hacc,←e]
    exact aIA (by omega)
   ·rw [←hm,show decide (eJ l f=k)=false by simpa using e,cond_false,hacc]
    exact aEN h5 (fun h=>e h.symm)
  refine⟨(k+1,mid++ [l.getD k 0]),⟨by show k+1≤_;omega,hnext⟩,?_,by show l.length- (k+1)<l.length-k;omega⟩
  refine bT [some ?k163_0] rfl rfl ?h3_163 ?h4_163 ?h5_163 ?h6_163 ?h7_163
  case' h7_163=>repeat' (first |exact trivial |rfl |exact .inl rfl |exact .inr rfl |exact id |exact(fun h=>Bool.noConfusion h)|refine And.intro ?_ ?_)
  case' h4_163=>rfl
  case' h6_163=>rfl
  case' h3_163=>repeat' (first |exact trivial |rfl |exact .inl rfl |exact .inr rfl |exact id |exact(fun h=>Bool.noConfusion h)|refine And.intro ?_ ?_)
  case' h5_163=>repeat' (first |exact trivial |rfl |exact .inl rfl |exact .inr rfl |exact id |exact(fun h=>Bool.noConfusion h)|refine And.intro ?_ ?_)
  ·exact fK mid _
  ·show(aE mid).length+1=_
   rw [aA,zF];rfl
 have h5:k=l.length:=by simp at h5;omega
 subst h5
 refine Wk ?_
 generalize hr:gG l (eJ l f) f=res
 have hrl:res.length=l.length+1:=by rw [←hr,jZ]
 have hend:=aI8 l f
 rw [←hacc,hr] at hend
 refine⟨Unit,fun _=>True,fun _=>⟨[(5,⟨[],true,.sl 0 0 res.length⟩)],[(0,.row 1 (aE res))],1⟩,?_,fun _ _=>?_⟩
 ·refine Wk ?_
  refine aC (fun h7=>?_) (fun h7=>?_)<;> try simp only [zC,zA,zD,zE,zG] at h7
  ·have h7:decide (eJ l f<l.length)=false:=h7
   have hend:acc++ [f]=res:=by rw [←hend,if_neg (by simpa using h7)]
   subst hend
   refine Wk ?_
   first |refine aB ((aA acc).symm) (bA (by show(((aE acc).length+1:Nat):Int)≤_;rw [aA];simp at hrl;omega) (by show((aE acc).length+1)*8≤_;rw [aA];simp at hrl;omega) ?_)|refine aB ⟨(aA acc).symm,by show(((aE acc).length+1:Nat):Int)≤_;rw [aA];simp at hrl;omega,by show((aE acc).length+1)*8≤_;rw [aA];simp at hrl;omega⟩ ?_ |refine⟨(aA acc).symm,by show(((aE acc).length+1:Nat):Int)≤_;rw [aA];simp at hrl;omega,by show((aE acc).length+1)*8≤_;rw [aA];simp at hrl;omega,?_⟩
   refine Wk ?_
   refine⟨(),trivial,?_⟩
   refine bT [some ?k189_0] rfl rfl ?h3_189 ?h4_189 ?h5_189 ?h6_189 ?h7_189
   case' h7_189=>repeat' (first |exact trivial |rfl |exact .inl rfl |exact .inr rfl |exact id |exact(fun h=>Bool.noConfusion h)|refine And.intro ?_ ?_)
   case' h4_189=>rfl
   case' h6_189=>rfl
   case' h3_189=>repeat' (first |exact trivial |rfl |exact .inl rfl |exact .inr rfl |exact id |exact(fun h=>Bool.noConfusion h)|refine And.intro ?_ ?_)
   case' h5_189=>repeat' (first |exact trivial |rfl |exact .inl rfl |exact .inr rfl |exact id |exact(fun h=>Bool.noConfusion h)|refine And.intro ?_ ?_)
   ·exact fK acc f
   ·show(aE acc).length+1=_
    rw [aA,zF];rfl
  have h7:decide (eJ l f<l.length)=true:=h7
  have hend:acc=res:=by rw [←hend,if_pos (by simpa using h7)]
  subst hend
  refine Wk ?_
  refine⟨(),trivial,?_⟩
  exact Vw [some 0]
 refine Wk ?_
 refine⟨[],trivial,rfl,trivial,rfl,?_⟩
 try subst hk
 repeat' (first |exact trivial |rfl |exact .inl rfl |exact .inr rfl |exact id |exact(fun h=>Bool.noConfusion h)|refine And.intro ?_ ?_)
 ·show 0+res.length≤_
  rw [aA];omega
 ·exact cV (aA _)
end Go.Proofs.YtmhapcbjjpadnaaGreat
set_option maxRecDepth 40000
namespace Go.Proofs.YtmhapcbjjpadnaaGreat
open Go Go.Sk Go.RowKit
structure vG(l:List Int)(x:Int)(j:Nat)(R:List Int):Prop where
 le:j≤l.length
 len:R.length=l.length
 kept:R.take (wo (l.take j) x).length=wo (l.take j) x
 rest:R.drop j=l.drop j
theorem vG.getj {l:List Int} {x:Int} {j:Nat} {R:List Int} (h:vG l x j R)(hj:j<l.length):R[j]'(by rw [h.len];exact hj)=l[j]:=by
 have h1:(R.drop j)[0]? =(l.drop j)[0]? :=by rw [h.rest]
 rw [zW,zW,Nat.add_zero,zO hj,zO (by rw [h.len];exact hj)] at h1
 exact Option.some.inj h1
theorem aEY {R l:List Int} {j:Nat} (h:R.drop j=l.drop j):R.drop (j+1)=l.drop (j+1):=by
 rw [←List.drop_drop,←List.drop_drop,h]
theorem vG.skip {l:List Int} {x:Int} {j:Nat} {R:List Int} (h:vG l x j R)(hj:j<l.length)(hx:l[j]=x):vG l x (j+1) R:=by
 have e:=aCE (x:=x) hj hx
 exact⟨by omega,h.len,by rw [e];exact h.kept,aEY h.rest⟩
theorem vG.keep {l:List Int} {x:Int} {j:Nat} {R:List Int} (h:vG l x j R)(hj:j<l.length)(hx:l[j]≠x):vG l x (j+1) (R.set (wo (l.take j) x).length l[j]):=by
 have e:=aI3 (x:=x) hj hx
 have hle:=rP l x j
 have hk:=h.kept
 have hlen:=h.len
 first |refine aB (by omega) (bA (by rw [zM];exact h.len) (?_) ?_)|refine aB ⟨by omega,by rw [zM];exact h.len,?_⟩ ?_ |refine⟨by omega,by rw [zM];exact h.len,?_,?_⟩
 ·rw [e,zF,zR]
  generalize wo (l.take j) x=K at hk hle⊢
  rw [zI (by rw [zM];omega),List.getElem_set_self,List.take_set_of_le (Nat.le_refl _),hk]
 ·rw [List.drop_set_of_lt (by omega)]
  exact aEY h.rest
theorem vG.start {l:List Int} {x:Int} {n:Nat} (hn:n<l.length)(hx:l[n]=x)(hb:∀j (hj:j<n),l[j]'(by omega)≠x):vG l x (n+1) l∧(wo (l.take (n+1)) x).length=n:=by
 have e:=aCE (x:=x) hn hx
 have e2:wo (l.take n) x=l.take n:=pP fun hm=>by
  obtain⟨j,hj,he⟩:=zS hm
  rw [zP] at hj
  rw [List.getElem_take] at he
  exact hb j (by omega) he
 have e3:(l.take n).length=n:=by rw [zP];omega
 rw [e,e2]
 refine⟨⟨by omega,rfl,?_,rfl⟩,e3⟩
 rw [e,e2,e3]
theorem bKG(k:Nat):zN k [V.int .i64 0]=aE (zN k 0):=by rw [aE,List.map_replicate]
set_option maxRecDepth 20000 in
set_option maxHeartbeats 1000000 in
theorem bGR(l:List Int)(x:Int)(hl:l.length≤100000):aN Tryz.prog 337 [.row 1 (aE l),.box [.int .i64 x]] [.sl 0 0 l.length,.fn 338 [.ptr 1 0 0]] (.sl 0 0 (wo l x).length)
 [.row 1 (aE (wo l x++zN (l.length- (wo l x).length) 0)),.box [.int .i64 x]]:=by
 refine aF (ob0:= [.row 1 (aE l),.box [.int .i64 x]]) [] Tryz.func337 rfl rfl rfl rfl ?_
 generalize hk:wo l x=q
 have p83:aN Tryz.prog 358 [] [.lst 1 false (aE l),.fn 338 [.rp 1 [.int .i64 x] 0]] (.int .i64 (dI (fun y=>y==x) l)) []:=bGX l false 338 [.rp 1 [.int .i64 x] 0] (fun y=>y==x) call83 rfl (fun y _=>bA8 y x) (by omega)
 have ht0:((aE l).drop 0).take l.length=aE l:=cV (aA l)
 have key:aN Tryz.prog 358 [] [.lst 1 false (((aE l).drop 0).take l.length),.fn 338 [.rp 1 [.int .i64 x] 0]] (.int .i64 (dI (fun y=>y==x) l)) []:=by rw [ht0];exact p83
 refine Wk ?_
 refine .inl ⟨_,fun _=>⟨?_,key⟩,.inr rfl,?_⟩
 ·intro v hv
  have hv:v∈ [V.sl 0 0 l.length,V.fn 338 [V.ptr 1 0 0]]:=hv
  rcases List.mem_cons.1 hv with rfl |hv
  ·show 0+l.length≤(aE l).length
   rw [aA];omega
  ·obtain rfl:=List.mem_singleton.1 hv
   intro c hc
   obtain rfl:=List.mem_singleton.1 hc
   exact⟨rfl,rfl⟩
 refine Wk ?_
 refine aC (fun h1=>?_) (fun h1=>?_)<;> try simp only [zC,zA,zD,zE,zG] at h1
 ·have h1:dI (fun y=>y==x) l= -1:=by simpa using h1
  have hno:x∉l:=fun hm=>by
   have :=(rA (fun y=>y==x) l).1 (by omega) x hm
   simp at this
  rw [pP hno] at hk
  subst hk
  refine Wk ?_
  try subst hk
  refine⟨[some 0,some 1],?_,rfl,?_,rfl,?_⟩
  all_goals repeat' (first |exact trivial |rfl |exact .inl rfl |exact .inr rfl |exact id |exact(fun h=>Bool.noConfusion h)|refine And.intro ?_ ?_)
  rw [Nat.sub_self,List.replicate_zero,List.append_nil]
 have h1:dI (fun y=>y==x) l≠-1:=by simpa using h1
 have hge:=(aGW (fun y=>y==x) l).1
 obtain⟨n,hn,hin,hx,hb⟩:=nT (fun y=>y==x) l (by omega)
 rw [hin]
 have hx:l[n]=x:=by simpa using hx
 obtain⟨hD,hDl⟩:=vG.start hn hx fun j hj=>by simpa using hb j hj
 have hn1:IntKind.i64.wrap ((n:Int)+1)=((n+1:Nat):Int):=by rw [aO (by omega) (by omega)];omega
 refine Wk ?_
 rw [hn1]
 refine⟨Nat×List Int,fun p=>vG l x p.1 p.2,fun p=>⟨[(0,⟨[],true,.sl 0 0 l.length⟩),(1,⟨[],true,.fn 338 [.ptr 1 0 0]⟩),(5,⟨[],true,.int .i64 ((wo (l.take p.1) x).length:Int)⟩),(6,⟨[],true,.int .i64 (p.1:Int)⟩)],[(0,.row 1 (aE p.2)),(1,.box [.int .i64 x])],2⟩,fun p=>l.length-p.1,⟨(n+1,l),hD,?_⟩,fun p hp=>?_⟩
 ·refine bT [some 0,some 1] rfl rfl ?_ rfl ?_ rfl ?_
  repeat' (first |exact trivial |rfl |exact .inl rfl |exact .inr rfl |exact id |exact(fun h=>Bool.noConfusion h)|refine And.intro ?_ ?_)
  show(n:Int)=((wo (l.take (n+1)) x).length:Int)
  rw [hDl]
 obtain⟨j,R⟩:=p
 have hp:vG l x j R:=hp
 dsimp only
 have hle:=hp.le
 have hlen:=hp.len
 have hwl:=rP l x j
 refine Wk ?_
 refine aC (fun h2=>?_) (fun h2=>?_)<;> try simp only [zC,zA,zD,zE,zG] at h2
 ·have h2:j<l.length:=by simp at h2;omega
  have hj1:IntKind.i64.wrap ((j:Int)+1)=((j+1:Nat):Int):=by rw [aO (by omega) (by omega)];omega
  have hRj:=hp.getj h2
  have hskip:=fun h=>hp.skip h2 h
  have hkeep:=fun h=>hp.keep h2 h
  have ws:=aCE (x:=x) h2
  have wk:=aI3 (x:=x) h2
  refine Wk ?_
  first |refine aB (⟨by omega,by omega⟩) ?_ |refine aH (fun _=>⟨by omega,by omega⟩) ?_ |refine⟨fun _=>⟨by omega,by omega⟩,?_⟩
  refine Wk ?_
  first |refine aB (by rw [aA,zH];omega) ?_ |refine aH (fun _=>by rw [aA,zH];omega) ?_ |refine⟨fun _=>by rw [aA,zH];omega,?_⟩
  refine Wk ?_
  rw [Nat.zero_add,zH,bJ R j (by omega),hRj]
  refine Wk ?_
  refine⟨call83,.inl ⟨.bool (l[j]==x),fun _=>⟨?_,bA8 l[j] x⟩,.inr rfl,?_⟩⟩
  ·intro v hv
   have hv:v∈ [V.int .i64 l[j],V.ptr 1 0 0]:=hv
   rcases List.mem_cons.1 hv with rfl |hv
   ·exact trivial
   ·obtain rfl:=List.mem_singleton.1 hv
    exact⟨rfl,rfl⟩
  refine Wk ?_
  refine aC (fun h3=>?_) (fun h3=>?_)<;> try simp only [zC,zA,zD,zE,zG] at h3
  ·have h3:l[j]≠x:=by simpa using h3
   have hkeep:=hkeep h3
   have wk:=wk h3
   generalize wo (l.take j) x=K at hkeep wk hwl⊢
   refine Wk ?_
   first |refine aB (⟨by omega,by omega⟩) ?_ |refine aH (fun _=>⟨by omega,by omega⟩) ?_ |refine⟨fun _=>⟨by omega,by omega⟩,?_⟩
   refine Wk ?_
   first |refine aB (by rw [aA,zH];omega) ?_ |refine⟨by rw [aA,zH];omega,?_⟩
   refine Wk ?_
   rw [hj1,aO (n:=(K.length:Int)+1) (by omega) (by omega)]
   refine⟨(j+1,R.set K.length l[j]),hkeep,?_,by show l.length- (j+1)<l.length-j;omega⟩
   refine bT [some 0,some 1] rfl rfl ?_ rfl ?_ rfl ?_
   repeat' (first |exact trivial |rfl |exact .inl rfl |exact .inr rfl |exact id |exact(fun h=>Bool.noConfusion h)|refine And.intro ?_ ?_)
   ·rw [Nat.zero_add,zH,bJ R K.length (by omega),aE,aE,List.map_set]
    rfl
   ·show(K.length:Int)+1=((wo (l.take (j+1)) x).length:Int)
    rw [wk,zF,zR];omega
  have h3:l[j]=x:=by simpa using h3
  have hskip:=hskip h3
  have ws:=ws h3
  refine Wk ?_
  rw [hj1]
  refine⟨(j+1,R),hskip,?_,by show l.length- (j+1)<l.length-j;omega⟩
  dsimp only
  rw [ws]
  exact Vw [some 0,some 1]
 have h2:j=l.length:=by simp at h2;omega
 subst h2
 have hkept:=hp.kept
 rw [zK,hk] at hkept hwl⊢
 refine Wk ?_
 first |refine aB (⟨by omega,by omega,by omega⟩) ?_ |refine aH (fun _=>⟨by omega,by omega,by omega⟩) ?_ |refine⟨fun _=>⟨by omega,by omega,by omega⟩,?_⟩
 refine Wk ?_
 have e1:((l.length:Int)).toNat- ((q.length:Int)).toNat=l.length-q.length:=by omega
 first |refine aB (by rw [aA];omega) ?_ |refine⟨by rw [aA];omega,?_⟩
 refine Wk ?_
 first |refine aB (⟨by omega,by omega,by omega⟩) ?_ |refine aH (fun _=>⟨by omega,by omega,by omega⟩) ?_ |refine⟨fun _=>⟨by omega,by omega,by omega⟩,?_⟩
 refine Wk ?_
 try subst hk
 refine⟨[some 0,some 1],?_,rfl,?_,rfl,?_⟩
 all_goals repeat' (first |exact trivial |rfl |exact .inl rfl |exact .inr rfl |exact id |exact(fun h=>Bool.noConfusion h)|refine And.intro ?_ ?_)
 have e2:(0+((wo l x).length:Int).toNat)=(wo l x).length:=by omega
 rw [e1,e2,bKG,aE,aE,aE,List.drop_of_length_le (by rw [List.length_map];omega),List.append_nil,List.map_append,←zU,hkept]
set_option maxRecDepth 20000 in
theorem aFM(l:List Int)(t:Bool)(x:Int)(hl:l.length≤100000):aN Tryz.prog 288 [] [.lst 1 t (aE l),.int .i64 x] (.lst 1 false (aE (wo l x))) []:=by
 refine aF (ob0:= []) [] Tryz.func288 rfl rfl rfl rfl ?_
 generalize hk:wo l x=q
 have hwl:=aMS l x
 refine Wk ?_
 refine .inr ⟨fun _=>⟨[],_,_,_,sV (aE l) t (by rw [aA];omega),trivial,rfl,rfl,rfl,?_⟩,(by intro h;cases h)⟩
 rw [aA]
 refine Wk ?_
 refine .inr ⟨fun _=>⟨[1,0],_,_,_,bGR l x hl,⟨rfl,rfl,trivial⟩,rfl,rfl,rfl,?_⟩,(by intro h;cases h)⟩
 rw [hk] at hwl⊢
 refine Wk ?_
 refine⟨[],trivial,rfl,trivial,rfl,?_⟩
 try subst hk
 repeat' (first |exact trivial |rfl |exact .inl rfl |exact .inr rfl |exact id |exact(fun h=>Bool.noConfusion h)|refine And.intro ?_ ?_)
 ·show 0+(wo l x).length≤_
  rw [aA,zF];omega
 ·show((aE (wo l x++zN (l.length- (wo l x).length) 0)).drop 0).take (wo l x).length=aE (wo l x)
  rw [List.drop_zero,aE,←zU,List.take_append_of_le_length (Nat.le_refl _),zK]
  rfl
set_option maxRecDepth 20000 in
theorem aTP(l:List Int)(t:Bool)(x:Int)(hl:l.length≤100000):aN Tryz.prog 241 [] [.lst 1 t (aE l),.int .i64 x] (.lst 1 false (aE (x::wo l x))) []:=by
 have hwl:=aMS l x
 refine aF (ob0:= []) [] Tryz.func241 rfl rfl rfl rfl ?_
 refine cC (aFM l t x hl) ?_
 rw [aA]
 first |refine bA (by show((1+(wo l x).length:Nat):Int)≤_;omega) (by show(1+(wo l x).length)*8≤_;omega) ?_ |refine aB ⟨by show((1+(wo l x).length:Nat):Int)≤_;omega,by show(1+(wo l x).length)*8≤_;omega⟩ ?_ |refine⟨by show((1+(wo l x).length:Nat):Int)≤_;omega,by show(1+(wo l x).length)*8≤_;omega,?_⟩
 refine Wk ?_
 refine⟨[],trivial,rfl,trivial,rfl,?_⟩
 try subst hk
 repeat' (first |exact trivial |rfl |exact .inl rfl |exact .inr rfl |exact id |exact(fun h=>Bool.noConfusion h)|refine And.intro ?_ ?_)
 ·show 0+(1+(wo l x).length)≤([[V.int .i64 x]]++aE (wo l x)).length
  rw [zF,aA];simp
 ·show zY (1+(wo l x).length) (zZ 0 ([[V.int .i64 x]]++aE (wo l x)))=aE (x::wo l x)
  exact cV (by rw [zF,aA];simp)
end Go.Proofs.YtmhapcbjjpadnaaGreat
set_option maxRecDepth 40000
namespace Go.Proofs.YtmhapcbjjpadnaaGreat
open Go Go.Sk Go.RowKit
structure Ls where
 A:List Int
 I:List Int
 R:List Int
def Ls.c(l:Ls):List V:= [.lst 1 false (aE l.A),.lst 1 false (aE l.I),.lst 1 false (aE l.R)]
structure eH(l:Ls):Prop where
 a:l.A.length≤10000
 i:l.I.length≤10000
 r:l.R.length≤10000
set_option maxRecDepth 20000 in
theorem aTM(l:Ls)(hl:eH l):aN Tryz.prog 238 [] [.agg l.c] (.agg l.c) []:=by
 have h1:=hl.a;have h2:=hl.i;have h3:=hl.r
 refine aF (ob0:= []) [] Tryz.func238 rfl rfl rfl rfl ?_
 refine Wk ?_
 refine .inr ⟨fun _=>⟨[],_,_,_,sV (aE l.A) false (by rw [aA];omega),trivial,rfl,rfl,rfl,?_⟩,(by intro h;cases h)⟩
 rw [aA]
 refine Wk ?_
 refine .inr ⟨fun _=>⟨[],_,_,_,sV (aE l.I) false (by rw [aA];omega),trivial,rfl,rfl,rfl,?_⟩,(by intro h;cases h)⟩
 rw [aA]
 refine Wk ?_
 refine .inr ⟨fun _=>⟨[],_,_,_,sV (aE l.R) false (by rw [aA];omega),trivial,rfl,rfl,rfl,?_⟩,(by intro h;cases h)⟩
 rw [aA]
 refine Wk ?_
 refine⟨[],trivial,rfl,trivial,rfl,?_⟩
 try subst hk
 repeat' (first |exact trivial |rfl |exact .inl rfl |exact .inr rfl |exact id |exact(fun h=>Bool.noConfusion h)|refine And.intro ?_ ?_)
 ·show 0+l.A.length≤_
  rw [aA];omega
 ·exact cV (aA _)
 ·show 0+l.I.length≤_
  rw [aA];omega
 ·exact cV (aA _)
 ·show 0+l.R.length≤_
  rw [aA];omega
 ·exact cV (aA _)
theorem bCH(l:Ls)(hl:eH l):aN Tryz.prog 238 [] [.agg l.c] (.agg [.lst 1 false (aE l.A),.lst 1 false (aE l.I),.sl 0 0 l.R.length]) [.row 1 (aE l.R)]:=by
 have h1:=hl.a;have h2:=hl.i;have h3:=hl.r
 refine aF (ob0:= []) [] Tryz.func238 rfl rfl rfl rfl ?_
 refine Wk ?_
 refine .inr ⟨fun _=>⟨[],_,_,_,sV (aE l.A) false (by rw [aA];omega),trivial,rfl,rfl,rfl,?_⟩,(by intro h;cases h)⟩
 rw [aA]
 refine Wk ?_
 refine .inr ⟨fun _=>⟨[],_,_,_,sV (aE l.I) false (by rw [aA];omega),trivial,rfl,rfl,rfl,?_⟩,(by intro h;cases h)⟩
 rw [aA]
 refine Wk ?_
 refine .inr ⟨fun _=>⟨[],_,_,_,sV (aE l.R) false (by rw [aA];omega),trivial,rfl,rfl,rfl,?_⟩,(by intro h;cases h)⟩
 rw [aA]
 refine Wk ?_
 try subst hk
 refine⟨[some 2176],?_,rfl,?_,rfl,?_⟩
 all_goals repeat' (first |exact trivial |rfl |exact .inl rfl |exact .inr rfl |exact id |exact(fun h=>Bool.noConfusion h)|refine And.intro ?_ ?_)
 ·show 0+l.A.length≤_
  rw [aA];omega
 ·exact cV (aA _)
 ·show 0+l.I.length≤_
  rw [aA];omega
 ·exact cV (aA _)
def bD(b:Nat→Bool):Nat→Bool
 |0=>true
 |n+1=>bD b n&& !b n
theorem jK {b:Nat→Bool} :∀ {n i:Nat},i<n→bD b n=true→b i=false
 |0,_,h,_=>by omega
 |n+1,i,h,h1=>by
  simp only [bD,zL,zD] at h1
  by_cases e:i=n
  ·subst e;exact h1.2
  ·exact jK (n:=n) (by omega) h1.1
theorem dK {b:Nat→Bool} {n i:Nat} (h:i<n)(hb:b i=true):bD b n=false:=by
 cases ha:bD b n with
 |false=>rfl
 |true=>rw [jK h ha] at hb;cases hb
theorem pF {b:Nat→Bool} :∀ {n:Nat},(∀i,i<n→b i=false)→bD b n=true
 |0,_=>rfl
 |n+1,h=>by simp only [bD,pF (n:=n) fun i hi=>h i (by omega),h n (by omega)];rfl
def aBM(all:List Int)(i:Nat):Bool:= !cF (all.getD i 0)||decide (all.getD i 0∈all.take i)
def aCL(all R:List Int)(i:Nat):Bool:= !decide (R.getD i 0∈all)||(decide (0< (i:Int))&&decide (R.getD i 0≤R.getD (i-1) 0))
def eZ(l:Ls):Bool:=bD (aBM (l.A++l.I)) (l.A++l.I).length&&bD (aCL (l.A++l.I) l.R) l.R.length
end Go.Proofs.YtmhapcbjjpadnaaGreat
set_option maxRecDepth 40000
namespace Go.Proofs.YtmhapcbjjpadnaaGreat
open Go Go.Sk Go.RowKit
theorem aJI(f:Int):(decide (f<1)||decide (64<f))= !cF f:=by
 unfold cF
 by_cases h1:f<1 <;> by_cases h2:64<f <;> simp [h1,h2] <;> omega
theorem uY(a b:List Int):aE a++aE b=aE (a++b):=by rw [aE,aE,aE,List.map_append]
set_option maxRecDepth 20000 in
set_option maxHeartbeats 1000000 in
theorem aZO(l:Ls)(hl:eH l):aN Tryz.prog 231 [] [.agg l.c] (.bool (eZ l)) []:=by
 have h1:=hl.a;have h2:=hl.i;have h3:=hl.r
 have hall:(l.A++l.I).length≤20000:=by rw [zF];omega
 refine aF (ob0:= []) [] Tryz.func231 rfl rfl rfl rfl ?_
 generalize hk:eZ l=q
 refine Wk ?_
 refine .inr ⟨fun _=>⟨[],_,_,_,sV (aE l.A) false (by rw [aA];omega),trivial,rfl,rfl,rfl,?_⟩,(by intro h;cases h)⟩
 rw [aA]
 refine Wk ?_
 first |refine aB (by rw [aA]) (bA (by rw [aA,aA];omega) (by rw [aA,aA];omega) ?_)|refine aB ⟨by rw [aA],by rw [aA,aA];omega,by rw [aA,aA];omega⟩ ?_ |refine⟨by rw [aA],by rw [aA,aA];omega,by rw [aA,aA];omega,?_⟩
 refine Wk ?_
 have hn:((aE l.A).length+(aE l.I).length:Nat)=(l.A++l.I).length:=by rw [aA,aA,zF]
 rw [hn,uY]
 rw [eZ] at hk
 generalize l.A++l.I=all at hk hall⊢
 refine⟨Nat×List (List Int×V),fun p=>(p.1≤all.length∧bD (aBM all) p.1=true)∧∀f,fB p.2 [f] (.bool false)=.bool (decide (f∈all.take p.1)),fun p=>⟨[(1,⟨[],true,.ptr 0 0 0⟩),(3,⟨[],true,.mp 1⟩),(14,⟨[],true,.lst 1 false (aE all)⟩),(15,⟨[],true,.int .i64 (all.length:Int)⟩),(16,⟨[],true,.int .i64 (p.1:Int)⟩)],
  [(0,.box l.c),(1,.mp (1,p.2))],2⟩,fun p=>all.length-p.1,⟨(0,[]),⟨⟨by simp,rfl⟩,fun f=>by simp [fB]⟩,?_⟩,fun p hp=>?_⟩
 ·refine bT [some 0,some 1] rfl rfl ?_ rfl ?_ rfl ?_
  repeat' (first |exact trivial |rfl |exact .inl rfl |exact .inr rfl |exact id |exact(fun h=>Bool.noConfusion h)|refine And.intro ?_ ?_)
  ·show 0+all.length≤_
   rw [aA];omega
  ·exact cV (aA _)
 obtain⟨i,M⟩:=p
 obtain⟨⟨hp1,hp2⟩,hM⟩:=hp
 dsimp only at hp1 hp2 hM⊢
 refine Wk ?_
 refine aC (fun b1=>?_) (fun b1=>?_)<;> try simp only [zC,zA,zD,zE,zG] at b1
 ·have b1:i<all.length:=by simp at b1;omega
  have hi1:IntKind.i64.wrap ((i:Int)+1)=((i+1:Nat):Int):=by rw [aO (by omega) (by omega)];omega
  refine Wk ?_
  first |refine aB (⟨rfl,by omega,by rw [aA];omega⟩) ?_ |refine aH (fun _=>⟨rfl,by omega,by rw [aA];omega⟩) ?_ |refine⟨fun _=>⟨rfl,by omega,by rw [aA];omega⟩,?_⟩
  rw [dN all i b1]
  have hbd:aBM all i=(!cF (all.getD i 0)||decide (all.getD i 0∈all.take i)):=rfl
  have hmem:∀y,y∈all.take (i+1)↔y∈all.take i∨y=all.getD i 0:=fun y=>by
   rw [zI b1,List.mem_append,List.mem_singleton,eY all i b1]
  generalize all.getD i 0=f at hbd hmem⊢
  refine cC (bA3 f) ?_
  rw [hM f]
  refine Wk ?_
  refine aC (fun b2=>?_) (fun b2=>?_)<;> try simp only [zC,zA,zD,zE,zG] at b2
  ·have b2:aBM all i=true:=by rw [hbd,←b2]
   rw [dK b1 b2] at hk
   have hk:q=false:=by rw [←hk];rfl
   subst hk
   refine Wk ?_
   try subst hk
   exact Lf
  have b2:aBM all i=false:=by rw [hbd,←b2]
  refine Wk ?_
  rw [hi1]
  refine⟨(i+1,gX M [f] (.bool true)),⟨⟨by show i+1≤_;omega,by show bD (aBM all) (i+1)=true;simp only [bD,hp2,b2];rfl⟩,fun y=>?_⟩,?_,by show all.length- (i+1)<all.length-i;omega⟩
  ·show fB (gX M [f] (.bool true)) [y] (.bool false)=.bool (decide (y∈all.take (i+1)))
   rw [aFF,hM y]
   simp only [List.cons.injEq,and_true]
   by_cases e:y=f
   ·rw [if_pos e,show decide (y∈all.take (i+1))=true by rw [decide_eq_true_eq,hmem];exact .inr e]
   ·rw [if_neg e]
    congr 1
    exact decide_eq_decide.2 (by rw [hmem];exact⟨.inl,fun h=>h.resolve_right e⟩)
  exact Vw [some 0,some 1]
 have b1:i=all.length:=by simp at b1;omega
 subst b1
 rw [zK] at hM
 rw [hp2,zT] at hk
 refine Wk ?_
 rw [aA]
 refine⟨Nat,fun j=>j≤l.R.length∧bD (aCL all l.R) j=true,fun j=>⟨[(1,⟨[],true,.ptr 0 0 0⟩),(3,⟨[],true,.mp 1⟩),(32,⟨[],true,.lst 1 false (aE l.R)⟩),(33,⟨[],true,.int .i64 (l.R.length:Int)⟩),(34,⟨[],true,.int .i64 (j:Int)⟩)],
  [(0,.box l.c),(1,.mp (1,M))],2⟩,fun j=>l.R.length-j,⟨0,⟨by omega,rfl⟩,?_⟩,fun j hj=>?_⟩
 ·exact Vw [some 0,some 1]
 obtain⟨hj1,hj2⟩:=hj
 refine Wk ?_
 refine aC (fun c1=>?_) (fun c1=>?_)<;> try simp only [zC,zA,zD,zE,zG] at c1
 ·have c1:j<l.R.length:=by simp at c1;omega
  have hj3:IntKind.i64.wrap ((j:Int)+1)=((j+1:Nat):Int):=by rw [aO (by omega) (by omega)];omega
  refine Wk ?_
  first |refine aB (⟨rfl,by omega,by rw [aA];omega⟩) ?_ |refine aH (fun _=>⟨rfl,by omega,by rw [aA];omega⟩) ?_ |refine⟨fun _=>⟨rfl,by omega,by rw [aA];omega⟩,?_⟩
  rw [dN l.R j c1]
  refine Wk ?_
  rw [hM]
  refine Wk ?_
  rw [uV j (by omega),oE j (by omega)]
  first |refine aH (fun hg=>⟨rfl,?_,by rw [aA];omega⟩) ?_ |refine⟨fun hg=>⟨rfl,?_,by rw [aA];omega⟩,?_⟩
  ·simp only [zL,decide_eq_true_eq] at hg;omega
  rw [bJ l.R (j-1) (by omega),eY l.R (j-1) (by omega)]
  refine Wk ?_
  have hbd:aCL all l.R j=(!decide (l.R.getD j 0∈all)||(decide (0< (j:Int))&&decide (l.R.getD j 0≤l.R.getD (j-1) 0))):=rfl
  refine aC (fun c2=>?_) (fun c2=>?_)<;> try simp only [zC,zA,zD,zE,zG] at c2
  ·have c2:aCL all l.R j=true:=by rw [hbd,←c2]
   rw [dK c1 c2] at hk
   subst hk
   refine Wk ?_
   try subst hk
   exact Lf
  have c2:aCL all l.R j=false:=by rw [hbd,←c2]
  refine Wk ?_
  rw [hj3]
  refine⟨j+1,⟨by show j+1≤_;omega,by simp only [bD,hj2,c2];rfl⟩,?_,by show l.R.length- (j+1)<l.R.length-j;omega⟩
  exact Vw [some 0,some 1]
 have c1:j=l.R.length:=by simp at c1;omega
 rw [←c1,hj2] at hk
 subst hk
 refine Wk ?_
 try subst hk
 exact Lf
end Go.Proofs.YtmhapcbjjpadnaaGreat
set_option maxRecDepth 40000
namespace Go.Proofs.YtmhapcbjjpadnaaGreat
open Go Go.Sk Go.RowKit
set_option maxRecDepth 20000 in
set_option maxHeartbeats 1000000 in
theorem aTC(l:Ls)(hl:eH l):aN Tryz.prog 195 [] [.agg l.c] (.bool (eZ l)) []:=by
 have h1:=hl.a;have h2:=hl.i;have h3:=hl.r
 have hall:(l.A++l.I).length≤20000:=by rw [zF];omega
 refine aF (ob0:= []) [] Tryz.func195 rfl rfl rfl rfl ?_
 generalize hk:eZ l=q
 refine Wk ?_
 first |refine bA (by rw [aA];omega) (by rw [aA];omega) ?_ |refine aB ⟨by rw [aA];omega,by rw [aA];omega⟩ ?_ |refine⟨by rw [aA];omega,by rw [aA];omega,?_⟩
 refine Wk ?_
 first |refine bA (by rw [aA,aA];omega) (by rw [aA,aA];omega) ?_ |refine aB ⟨by rw [aA,aA];omega,by rw [aA,aA];omega⟩ ?_ |refine⟨by rw [aA,aA];omega,by rw [aA,aA];omega,?_⟩
 refine Wk ?_
 have hn:((aE l.A).length+(aE l.I).length:Nat)=(l.A++l.I).length:=by rw [aA,aA,zF]
 rw [hn,uY]
 rw [eZ] at hk
 generalize l.A++l.I=all at hk hall⊢
 refine⟨Nat,fun i=>i≤all.length∧bD (aBM all) i=true,fun i=>⟨[(1,⟨[],true,.ptr 0 0 0⟩),(3,⟨[],true,.lst 1 false (aE all)⟩),(4,⟨[],true,.int .i64 (i:Int)⟩)],
  [(0,.box l.c)],1⟩,fun i=>all.length-i,⟨0,⟨by omega,rfl⟩,?_⟩,fun i hi=>?_⟩
 ·refine bT [some 0] rfl rfl ?_ rfl ?_ rfl ?_
  repeat' (first |exact trivial |rfl |exact .inl rfl |exact .inr rfl |exact id |exact(fun h=>Bool.noConfusion h)|refine And.intro ?_ ?_)
  ·show 0+all.length≤_
   rw [aA];omega
  ·exact cV (aA _)
 obtain⟨hp1,hp2⟩:=hi
 refine Wk ?_
 rw [aA]
 refine aC (fun b1=>?_) (fun b1=>?_)<;> try simp only [zC,zA,zD,zE,zG] at b1
 ·have b1:i<all.length:=by simp at b1;omega
  have hi1:IntKind.i64.wrap ((i:Int)+1)=((i+1:Nat):Int):=by rw [aO (by omega) (by omega)];omega
  refine Wk ?_
  first |refine aB (⟨rfl,by omega,by rw [aA];omega⟩) ?_ |refine aH (fun _=>⟨rfl,by omega,by rw [aA];omega⟩) ?_ |refine⟨fun _=>⟨rfl,by omega,by rw [aA];omega⟩,?_⟩
  rw [dN all i b1]
  refine Wk ?_
  first |refine aB (⟨rfl,by omega,by rw [aA];omega⟩) ?_ |refine aH (fun _=>⟨rfl,by omega,by rw [aA];omega⟩) ?_ |refine⟨fun _=>⟨rfl,by omega,by rw [aA];omega⟩,?_⟩
  rw [dN all i b1]
  refine Wk ?_
  first |refine aB (⟨.inl rfl,zX _,by omega,by rw [aA];omega⟩) ?_ |refine aH (fun _=>⟨.inl rfl,zX _,by omega,by rw [aA];omega⟩) ?_ |refine⟨fun _=>⟨.inl rfl,zX _,by omega,by rw [aA];omega⟩,?_⟩
  rw [show zZ (Int.toNat 0) (zY ((i:Int)).toNat (aE all))=aE (all.take i) by rw [zH,aE,aE,zU];rfl]
  refine Wk ?_
  first |refine aB (⟨rfl,by omega,by rw [aA];omega⟩) ?_ |refine aH (fun _=>⟨rfl,by omega,by rw [aA];omega⟩) ?_ |refine⟨fun _=>⟨rfl,by omega,by rw [aA];omega⟩,?_⟩
  rw [dN all i b1]
  have hbd:aBM all i=(!cF (all.getD i 0)||decide (all.getD i 0∈all.take i)):=rfl
  generalize all.getD i 0=f at hbd⊢
  have hlt:((all.take i).length:Int)<2^62:=by rw [zP];omega
  refine cC (aFK (all.take i) false f hlt) ?_
  rw [atM]
  have e:(bif bif decide (f<1) then true else decide (64<f) then true else decide (f∈all.take i))=aBM all i:=by
   rw [hbd,←aJI];rfl
  rw [e]
  refine aC (fun b2=>?_) (fun b2=>?_)<;> try simp only [zC,zA,zD,zE,zG] at b2
  ·rw [dK b1 b2] at hk
   have hk:q=false:=by rw [←hk];rfl
   subst hk
   refine Wk ?_
   try subst hk
   exact Lf
  refine Wk ?_
  rw [hi1]
  refine⟨i+1,⟨by show i+1≤_;omega,by simp only [bD,hp2,b2];rfl⟩,?_,by show all.length- (i+1)<all.length-i;omega⟩
  exact Vw [some 0]
 have b1:i=all.length:=by simp at b1;omega
 subst b1
 rw [hp2,zT] at hk
 refine Wk ?_
 refine⟨Nat,fun j=>j≤l.R.length∧bD (aCL all l.R) j=true,fun j=>⟨[(1,⟨[],true,.ptr 0 0 0⟩),(3,⟨[],true,.lst 1 false (aE all)⟩),(5,⟨[],true,.int .i64 (j:Int)⟩)],
  [(0,.box l.c)],1⟩,fun j=>l.R.length-j,⟨0,⟨by omega,rfl⟩,?_⟩,fun j hj=>?_⟩
 ·exact Vw [some 0]
 obtain⟨hj1,hj2⟩:=hj
 refine Wk ?_
 rw [aA]
 refine aC (fun c1=>?_) (fun c1=>?_)<;> try simp only [zC,zA,zD,zE,zG] at c1
 ·have c1:j<l.R.length:=by simp at c1;omega
  have hj3:IntKind.i64.wrap ((j:Int)+1)=((j+1:Nat):Int):=by rw [aO (by omega) (by omega)];omega
  refine Wk ?_
  first |refine aB (⟨rfl,by omega,by rw [aA];omega⟩) ?_ |refine aH (fun _=>⟨rfl,by omega,by rw [aA];omega⟩) ?_ |refine⟨fun _=>⟨rfl,by omega,by rw [aA];omega⟩,?_⟩
  rw [dN l.R j c1]
  refine cC (aFK all false (l.R.getD j 0) (by omega)) ?_
  first |refine aB (⟨rfl,by omega,by rw [aA];omega⟩) ?_ |refine aH (fun _=>⟨rfl,by omega,by rw [aA];omega⟩) ?_ |refine⟨fun _=>⟨rfl,by omega,by rw [aA];omega⟩,?_⟩
  rw [dN l.R j c1]
  refine Wk ?_
  rw [uV j (by omega),oE j (by omega)]
  first |refine aH (fun hg=>⟨rfl,?_,by rw [aA];omega⟩) ?_ |refine⟨fun hg=>⟨rfl,?_,by rw [aA];omega⟩,?_⟩
  ·simp only [zL,decide_eq_true_eq] at hg;omega
  rw [bJ l.R (j-1) (by omega),eY l.R (j-1) (by omega)]
  refine Wk ?_
  rw [atN]
  have e:(bif decide (l.R.getD j 0∉all) then true else bif decide (0< (j:Int)) then decide (l.R.getD j 0≤l.R.getD (j-1) 0) else false)=aCL all l.R j:=by
   rw [aCL,decide_not];cases decide (l.R.getD j 0∈all)<;> cases decide (0< (j:Int))<;> rfl
  rw [e]
  refine aC (fun c2=>?_) (fun c2=>?_)<;> try simp only [zC,zA,zD,zE,zG] at c2
  ·rw [dK c1 c2] at hk
   subst hk
   refine Wk ?_
   try subst hk
   exact Lf
  refine Wk ?_
  rw [hj3]
  refine⟨j+1,⟨by show j+1≤_;omega,by simp only [bD,hj2,c2];rfl⟩,?_,by show l.R.length- (j+1)<l.R.length-j;omega⟩
  exact Vw [some 0]
 have c1:j=l.R.length:=by simp at c1;omega
 rw [←c1,hj2] at hk
 subst hk
 refine Wk ?_
 try subst hk
 exact Lf
end Go.Proofs.YtmhapcbjjpadnaaGreat
