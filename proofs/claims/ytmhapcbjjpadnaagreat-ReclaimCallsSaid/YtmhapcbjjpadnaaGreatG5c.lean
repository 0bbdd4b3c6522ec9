/- Caches. -/
import Derived.Test.YtmhapcbjjpadnaaGreatG4c
set_option linter.all false
set_option maxHeartbeats 1000000
set_option maxRecDepth 40000
open Bool renaming cond_false_right→zA,cond_true_left→zC,not_eq_true'→zD,not_eq_false'→zE,not_not→zG,and_eq_true→zK,eq_iff_iff→zO,true_and→zR
open Int renaming toNat_natCast→zH,natCast_nonneg→zU
open List renaming length_append→zF,take_succ_eq_append_getElem→zI,take_length→zJ,replicate→zL,getElem?_eq_getElem→zM,length_take→zN,length_singleton→zP,getElem_of_mem→zQ,map_take→zS,filter_append→zT,getElem?_drop→zV,take→zW,drop→zX
namespace Go.Proofs.YtmhapcbjjpadnaaGreat
open Go Go.Sk Go.RowKit
def wo(l:List Int)(x:Int):List Int:=l.filter (λy=>y != x)
theorem aBW(l:List Int)(t:Bool)(x:Int)(F:(l.length:Int)<2^62):aM Tryz.prog 196 [] [.lst 1 t (aB l),.int .i64 x] (.int .i64 (eJ (λy=>y==x) l)) []:=by
 refine cK Tryz.func196 ?_;generalize z:eJ (λy=>y==x) l=q;refine Wk ?_;refine⟨Nat,λi=>i<=l.length/\∀j (m:j<i) (h:j<l.length),(l[j]==x)=false,λi=>⟨[(0,⟨[],true,.lst 1 t (aB l)⟩),(1,⟨[],true,.int .i64 x⟩),(4,⟨[],true,.int .i64 0⟩),(5,⟨[],true,.int .i64 (i:Int)⟩)],[],0⟩,λi=>l.length-i,⟨0,⟨by omega,λj m=>by omega⟩,?_⟩,λi C=>?_⟩
 ·exact Vw []
 obtain⟨D,f⟩:=C;refine Wk ?_;rw [aA];refine aC (λh2=>?_) (λh2=>?_)<;> try simp only [zC,zA,zD,zE,zG] at h2
 ·have h2:i<l.length:=by simp at h2;omega
  refine Wk ?_;refine aG (⟨rfl,by omega,by rw [aA];omega⟩) ?_;rw [zH,bS l i h2];refine Wk ?_;refine aC (λB=>?_) (λB=>?_)<;> try simp only [zC,zA,zD,zE,zG] at B
  ·have :q=i:=by rw [<-z];exact rZ _ l i h2 (λj m=>f j m (by omega)) B
   subst this;refine Wk ?_
   try subst z
   exact Lf
  refine Wk ?_;rw [aP (n:=(i:Int)+1) (by omega) (by omega),show((i:Int)+1)=((i+1:Nat):Int) by omega];refine⟨i+1,⟨by omega,λj m h=>?_⟩,?_,by show l.length- (i+1)<l.length-i;omega⟩
  ·by_cases e:j=i
   ·subst e;exact B
   ·exact f j (by omega) h
  exact Vw []
 have h2:i=l.length:=by simp at h2;omega
 have :q= -1:=by rw [<-z];exact lU _ l λy E=>by obtain⟨j,m,rfl⟩:=zQ E;exact f j (by omega) m
 subst this;refine Wk ?_
 try subst z
 exact Lf
theorem atM(l:List Int)(x:Int):decide (0<=eJ (λy=>y==x) l)=decide (x∈l):=by
 have :(λy=>y==x)=(λy=>x==y):=by funext y;rw [zO];simp only [zbe];exact eq_comm
 rw [this];exact bNS l x
theorem atN(l:List Int)(x:Int):decide (eJ (λy=>y==x) l<0)=decide (x∉l):=by have :=atM l x;rw [zO,decide_eq_true_eq,decide_eq_true_eq] at this;rw [zO,decide_eq_true_eq,decide_eq_true_eq,<-this];omega
theorem aJV(l:List Int)(t:Bool)(x:Int)(e:l.length<=100000):aM Tryz.prog 197 [] [.lst 1 t (aB l),.int .i64 x] (.lst 1 false (aB (x::l))) []:=by
 refine cK Tryz.func197 ?_;refine Wk ?_;rw [aA];refine cA (by show((1+l.length:Nat):Int)<=_;omega) (by show(1+l.length)*8<=_;omega) ?_;refine Wk ?_;refine⟨[],trivial,rfl,trivial,rfl,?_⟩
 repeat' (first |exact trivial |rfl |exact .inl rfl |exact .inr rfl |exact id |exact zbc |apply And.intro)
 ·show 0+(1+l.length)<=([[V.int .i64 x]]++aB l).length;rw [zF,aA];simp
 ·show zW (1+l.length) (zX 0 ([[V.int .i64 x]]++aB l))=aB (x::l);exact dB (by rw [zF,aA];simp)
def cI(f:Int):Bool:=decide (1<=f)&&decide (f<=64)
theorem bHL(f:Int):aM Tryz.prog 309 [] [.int .i64 f] (.bool (cI f)) []:=by
 refine cK Tryz.func309 ?_;refine Wk ?_;refine⟨[],trivial,rfl,trivial,rfl,?_⟩
 repeat' (first |exact trivial |rfl |exact .inl rfl |exact .inr rfl |exact id |exact zbc |apply And.intro)
 unfold cI;cases decide (1<=f)<;> rfl
theorem bHO(y x:Int):aM Tryz.prog 338 [] [.int .i64 y,.rp 1 [.int .i64 x] 0] (.bool (y==x)) []:=by refine cK Tryz.func338 ?_;refine Wk ?_;exact Lf
theorem call83:jL Tryz.prog 338:=⟨_,Tryz.func338,rfl,rfl⟩
theorem bDT(a b:List Int)(E F:Bool)(J:(a.length:Int)<2^62)(K:(b.length:Int)<2^62):aM Tryz.prog 91 [] [.lst 1 E (aB a),.lst 1 F (aB b)] (.bool (decide (a=b))) []:=by
 refine cK Tryz.func91 ?_;generalize m:decide (a=b)=q;refine Wk ?_;rw [aA,aA];refine aC (λf=>?_) (λf=>?_)<;> try simp only [zC,zA,zD,zE,zG] at f
 ·have f:a.length≠b.length:=by simp at f;omega
  have :q=false:=by rw [<-m,zdn];rintro rfl;exact f rfl
  subst this;refine Wk ?_
  try subst m
  exact Lf
 have f:a.length=b.length:=by simp at f;omega
 refine Wk ?_;refine⟨Nat,λi=>i<=a.length/\∀j (h:j<a.length) (B:j<b.length),j<i->a[j]=b[j],λi=>⟨[(0,⟨[],true,.lst 1 E (aB a)⟩),(1,⟨[],true,.lst 1 F (aB b)⟩),(5,⟨[],true,.int .i64 (i:Int)⟩)],[],0⟩,λi=>a.length-i,⟨0,⟨by omega,λj _ _ h=>by omega⟩,?_⟩,λi G=>?_⟩
 ·exact Vw []
 obtain⟨H,z⟩:=G;refine Wk ?_;rw [aA];refine aC (λh2=>?_) (λh2=>?_)<;> try simp only [zC,zA,zD,zE,zG] at h2
 ·have h2:i<a.length:=by simp at h2;omega
  have D:i<b.length:=by omega
  refine Wk ?_;refine⟨λ_=>⟨rfl,by omega,by rw [aA];omega⟩,?_⟩;rw [zH,bS a i h2];refine Wk ?_;refine⟨λ_=>⟨rfl,by omega,by rw [aA];omega⟩,?_⟩;rw [zH,bS b i D];refine Wk ?_;refine aC (λC=>?_) (λC=>?_)<;> try simp only [zC,zA,zD,zE,zG] at C
  ·have :q=false:=by rw [<-m,zdn];rintro rfl;simp at C
   subst this;refine Wk ?_
   try subst m
   exact Lf
  have C:a[i]=b[i]:=by simpa using C
  refine Wk ?_;rw [aP (n:=(i:Int)+1) (by omega) (by omega),show((i:Int)+1)=((i+1:Nat):Int) by omega];refine⟨i+1,⟨by omega,λj h B M=>?_⟩,?_,by show a.length- (i+1)<a.length-i;omega⟩
  ·by_cases e:j=i
   ·subst e;exact C
   ·exact z j h B (by omega)
  exact Vw []
 have h2:i=a.length:=by simp at h2;omega
 have :q=true:=by rw [<-m,decide_eq_true_eq];exact List.ext_getElem f λj h B=>z j h B (by omega)
 subst this;refine Wk ?_
 try subst m
 exact Lf
theorem aDZ(l:List Int)(x:Int):(wo l x).length<=l.length:=List.length_filter_le _ _
theorem eL {l:List Int} {x y:Int} :y∈wo l x↔y∈l/\y≠x:=by simp [wo]
theorem aMR {l:List Int} {x:Int} {i:Nat} (h:i<l.length)(e:l[i]≠x):wo (l.take (i+1)) x=wo (l.take i) x++ [l[i]]:=by rw [zI h,wo,wo,zT];simp [e]
theorem aG5 {l:List Int} {x:Int} {i:Nat} (h:i<l.length)(e:l[i]=x):wo (l.take (i+1)) x=wo (l.take i) x:=by rw [zI h,wo,wo,zT];simp [e]
theorem sQ {l:List Int} {x:Int} (h:x∉l):wo l x=l:=by rw [wo,List.filter_eq_self];intro y e;simp only [bne_iff_ne];rintro rfl;exact h e
theorem vA(l:List Int)(x:Int)(i:Nat):(wo (l.take i) x).length<=i:=Nat.le_trans (aDZ _ _) (by simp;omega)
theorem aEG(l:List Int)(t:Bool)(x:Int)(hl:l.length<=100000):aM Tryz.prog 198 [] [.lst 1 t (aB l),.int .i64 x] (.lst 1 false (aB (wo l x))) []:=by
 refine cK Tryz.func198 ?_;generalize hk:wo l x=q;refine Wk ?_;refine⟨Nat,λi=>i<=l.length,λi=>⟨[(0,⟨[],true,.lst 1 t (aB l)⟩),(1,⟨[],true,.int .i64 x⟩),(5,⟨[],true,.sl 0 0 (wo (l.take i) x).length⟩),(6,⟨[],true,.int .i64 (i:Int)⟩)],[(0,.row 1 (aB (wo (l.take i) x)))],1⟩,λi=>l.length-i,⟨0,by omega,?_⟩,λi hI=>?_⟩
 ·exact Vw [none]
 have hI:i<=l.length:=hI;have hwl:=vA l x i;refine Wk ?_;rw [aA];refine aC (λh2=>?_) (λh2=>?_)<;> try simp only [zC,zA,zD,zE,zG] at h2
 ·have h2:i<l.length:=by simp at h2;omega
  have hw:IntKind.i64.wrap ((i:Int)+1)=((i+1:Nat):Int):=by rw [aP (by omega) (by omega)];omega
  have hkeep:=aMR (x:=x) h2;have hskip:=aG5 (x:=x) h2;refine Wk ?_;refine aG (⟨rfl,by omega,by rw [aA];omega⟩) ?_;rw [zH,bS l i h2];refine Wk ?_;generalize hout:wo (l.take i) x=out at hwl hkeep hskip⊢;refine aC (λh3=>?_) (λh3=>?_)<;> try simp only [zC,zA,zD,zE,zG] at h3
  ·have h3:l[i]≠x:=by simpa using h3
   have hkeep:=hkeep h3;refine Wk ?_;refine aG (⟨rfl,by omega,by rw [aA];omega⟩) ?_;rw [zH,bS l i h2];refine Wk ?_;refine aG ((aA out).symm) (cA (by show(((aB out).length+1:Nat):Int)<=_;rw [aA];omega) (by show((aB out).length+1)*8<=_;rw [aA];omega) ?_);refine Wk ?_;rw [hw];refine⟨i+1,by show i+1<=_;omega,?_,by show l.length- (i+1)<l.length-i;omega⟩;dsimp only;rw [hkeep];refine bU [some ?k54_0] rfl rfl ?h3_54 ?h4_54 ?h5_54 ?h6_54 ?h7_54
   case' h7_54=>repeat' (first |exact trivial |rfl |exact .inl rfl |exact .inr rfl |exact id |exact zbc |apply And.intro)
   case' h4_54=>rfl
   case' h6_54=>rfl
   case' h3_54=>repeat' (first |exact trivial |rfl |exact .inl rfl |exact .inr rfl |exact id |exact zbc |apply And.intro)
   case' h5_54=>repeat' (first |exact trivial |rfl |exact .inl rfl |exact .inr rfl |exact id |exact zbc |apply And.intro)
   ·exact fG out _
   ·show(aB out).length+1=_;rw [aA,zF];rfl
  have h3:l[i]=x:=by simpa using h3
  have hskip:=hskip h3;refine Wk ?_;rw [hw];refine⟨i+1,by show i+1<=_;omega,?_,by show l.length- (i+1)<l.length-i;omega⟩;dsimp only;rw [hskip];exact Vw [some 0]
 have h2:i=l.length:=by simp at h2;omega
 subst h2;rw [zJ,hk];refine Wk ?_;refine⟨[],trivial,rfl,trivial,rfl,?_⟩
 try subst hk
 repeat' (first |exact trivial |rfl |exact .inl rfl |exact .inr rfl |exact id |exact zbc |apply And.intro)
 ·show 0+(wo l x).length<=_;rw [aA];omega
 ·exact dB (aA _)
theorem bP6(l:List Int)(t:Bool)(f:Int)(hl:l.length<=100000)(hn:f∉l):aM Tryz.prog 204 [] [.lst 1 t (aB l),.int .i64 f] (.lst 1 false (aB (iR l (fM l f) f))) []:=by
 have hpl:=aAI l f;refine eT (ob0:= []) [.c 23,.c 36] Tryz.func204 rfl rfl rfl rfl ?_;refine Wk ?_
 refine⟨Nat×List Int,λy=>y.1<=l.length/\y.2=qG l f y.1,λy=>⟨[(0,⟨[],true,.lst 1 t (aB l)⟩),(1,⟨[],true,.int .i64 f⟩),(5,⟨[],true,.sl 0 0 y.2.length⟩),(6,⟨[],true,.bool (decide (fM l f<y.1))⟩),(7,⟨[],true,.int .i64 (y.1:Int)⟩)],
  [(0,.row 1 (aB y.2))],1⟩,λy=>l.length-y.1,⟨(0,[]),⟨by simp,by show []=qG l f 0;rw [qG,if_pos (by omega),List.take_zero]⟩,?_⟩,λy hk'=>?_⟩
 ·exact Vw [none]
 obtain⟨k,acc⟩:=y;obtain⟨hk1,hacc⟩:=hk';dsimp only at hk1 hacc⊢;have hal:=aN2 l f k hk1;refine Wk ?_;rw [aA];refine aC (λh5=>?_) (λh5=>?_)<;> try simp only [zC,zA,zD,zE,zG] at h5
 ·have h5:k<l.length:=by simp at h5;omega
  have h6:l.getD k 0≠f:=by intro e;rw [<-fO l k h5] at e;exact hn (e▸List.getElem_mem h5)
  refine Wk ?_;generalize hm:(bif decide (fM l f=k) then acc++ [f] else acc)=mid;refine⟨Unit,λ_=>True,λ_=>⟨[(0,⟨[],true,.lst 1 t (aB l)⟩),(1,⟨[],true,.int .i64 f⟩),(5,⟨[],true,.sl 0 0 mid.length⟩),(6,⟨[],true,.bool (decide (fM l f<k+1))⟩),(7,⟨[],true,.int .i64 (k:Int)⟩)],[(0,.row 1 (aB mid))],1⟩,?_,λ_ _=>?_⟩
  ·refine Wk ?_;refine kE (λ_=>⟨rfl,zU k,by rw [aA];omega⟩) ?_;rw [cT l k h5];refine Wk ?_;refine aC (λh7=>?_) (λh7=>?_)<;> try simp only [zC,zA,zD,zE,zG] at h7
   ·have h7:(!decide (fM l f<k)&&decide (f<l.getD k 0))=true:=by simpa using h7
    have e7:fM l f=k:=by simp only [zK,zD,zdn,decide_eq_true_eq] at h7;have :=λh=>aKY l f k h;omega
    have hm:acc++ [f]=mid:=by rw [<-hm,show decide (fM l f=k)=true by simpa using e7];rfl
    subst hm;refine Wk ?_;refine aG ((aA acc).symm) (cA (by show(((aB acc).length+1:Nat):Int)<=_;rw [aA,hacc];omega) (by show((aB acc).length+1)*8<=_;rw [aA,hacc];omega) ?_);refine Wk ?_;refine⟨(),trivial,?_⟩;refine bU [some ?k119_0] rfl rfl ?h3_119 ?h4_119 ?h5_119 ?h6_119 ?h7_119
    case' h7_119=>repeat' (first |exact trivial |rfl |exact .inl rfl |exact .inr rfl |exact id |exact zbc |apply And.intro)
    case' h4_119=>rfl
    case' h6_119=>rfl
    case' h3_119=>repeat' (first |exact trivial |rfl |exact .inl rfl |exact .inr rfl |exact id |exact zbc |apply And.intro)
    case' h5_119=>repeat' (first |exact trivial |rfl |exact .inl rfl |exact .inr rfl |exact id |exact zbc |apply And.intro)
    ·exact fG acc f
    ·show(aB acc).length+1=_;rw [aA,zF];rfl
    ·show true=decide (fM l f<k+1);simp;omega
   have h7:(!decide (fM l f<k)&&decide (f<l.getD k 0))=false:=by simpa using h7
   have e7:fM l f≠k:=by intro e;have :=aKX l f (by omega);rw [e] at this;rw [e,show decide (k<k)=false by simp,Bool.not_false,zR,zdn] at h7;omega
   have hm:acc=mid:=by rw [<-hm,show decide (fM l f=k)=false by simpa using e7];rfl
   subst hm;refine Wk ?_;refine⟨(),trivial,?_⟩;refine bU [some 0] rfl rfl ?_ rfl ?_ rfl ?_
   repeat' (first |exact trivial |rfl |exact .inl rfl |exact .inr rfl |exact id |exact zbc |apply And.intro)
   exact decide_eq_decide.2 (by show fM l f<k↔fM l f<k+1;omega)
  refine Wk ?_
  have hml:mid.length<=k+2:=by
   rw [<-hm]
   cases decide (fM l f=k) with
   |true=>show(acc++ [f]).length<=_;rw [hacc];have :=hal;simp;omega
   |false=>show acc.length<=_;rw [hacc];omega
  refine aG (⟨rfl,zU k,by rw [aA];omega⟩) ?_;rw [cT l k h5];refine Wk ?_;refine aG ((aA mid).symm) (cA (by show(((aB mid).length+1:Nat):Int)<=_;rw [aA];omega) (by show((aB mid).length+1)*8<=_;rw [aA];omega) ?_);refine Wk ?_;rw [aP (n:=(k:Int)+1) (by omega) (by omega),show((k:Int)+1)=((k+1:Nat):Int) by omega]
  have hnext:mid++ [l.getD k 0]=qG l f (k+1):=by
   by_cases e:fM l f=k
   ·rw [<-hm,show decide (fM l f=k)=true by simpa using e,zct,hacc,<-e];exact aN3 (by omega)
   ·rw [<-hm,show decide (fM l f=k)=false by simpa using e,zcf,hacc];exact aJ1 h5 (λh=>e h.symm)
  refine⟨(k+1,mid++ [l.getD k 0]),⟨by show k+1<=_;omega,hnext⟩,?_,by show l.length- (k+1)<l.length-k;omega⟩;refine bU [some ?k163_0] rfl rfl ?h3_163 ?h4_163 ?h5_163 ?h6_163 ?h7_163
  case' h7_163=>repeat' (first |exact trivial |rfl |exact .inl rfl |exact .inr rfl |exact id |exact zbc |apply And.intro)
  case' h4_163=>rfl
  case' h6_163=>rfl
  case' h3_163=>repeat' (first |exact trivial |rfl |exact .inl rfl |exact .inr rfl |exact id |exact zbc |apply And.intro)
  case' h5_163=>repeat' (first |exact trivial |rfl |exact .inl rfl |exact .inr rfl |exact id |exact zbc |apply And.intro)
  ·exact fG mid _
  ·show(aB mid).length+1=_;rw [aA,zF];rfl
 have h5:k=l.length:=by simp at h5;omega
 subst h5;refine Wk ?_;generalize hr:iR l (fM l f) f=res;have hrl:res.length=l.length+1:=by rw [<-hr,mN]
 have hend:=aN1 l f;rw [<-hacc,hr] at hend;refine⟨Unit,λ_=>True,λ_=>⟨[(5,⟨[],true,.sl 0 0 res.length⟩)],[(0,.row 1 (aB res))],1⟩,?_,λ_ _=>?_⟩
 ·refine Wk ?_;refine aC (λh7=>?_) (λh7=>?_)<;> try simp only [zC,zA,zD,zE,zG] at h7
  ·have h7:decide (fM l f<l.length)=false:=h7;have hend:acc++ [f]=res:=by rw [<-hend,if_neg (by simpa using h7)]
   subst hend;refine Wk ?_;refine aG ((aA acc).symm) (cA (by show(((aB acc).length+1:Nat):Int)<=_;rw [aA];simp at hrl;omega) (by show((aB acc).length+1)*8<=_;rw [aA];simp at hrl;omega) ?_);refine Wk ?_;refine⟨(),trivial,?_⟩;refine bU [some ?k189_0] rfl rfl ?h3_189 ?h4_189 ?h5_189 ?h6_189 ?h7_189
   case' h7_189=>repeat' (first |exact trivial |rfl |exact .inl rfl |exact .inr rfl |exact id |exact zbc |apply And.intro)
   case' h4_189=>rfl
   case' h6_189=>rfl
   case' h3_189=>repeat' (first |exact trivial |rfl |exact .inl rfl |exact .inr rfl |exact id |exact zbc |apply And.intro)
   case' h5_189=>repeat' (first |exact trivial |rfl |exact .inl rfl |exact .inr rfl |exact id |exact zbc |apply And.intro)
   ·exact fG acc f
   ·show(aB acc).length+1=_;rw [aA,zF];rfl
  have h7:decide (fM l f<l.length)=true:=h7;have hend:acc=res:=by rw [<-hend,if_pos (by simpa using h7)]
  subst hend;refine Wk ?_;refine⟨(),trivial,?_⟩;exact Vw [some 0]
 refine Wk ?_;refine⟨[],trivial,rfl,trivial,rfl,?_⟩
 repeat' (first |exact trivial |rfl |exact .inl rfl |exact .inr rfl |exact id |exact zbc |apply And.intro)
 ·show 0+res.length<=_;rw [aA];omega
 ·exact dB (aA _)
structure aCL(l:List Int)(x:Int)(j:Nat)(R:List Int):Prop where
 le:j<=l.length
 len:R.length=l.length
 kept:R.take (wo (l.take j) x).length=wo (l.take j) x
 rest:R.drop j=l.drop j
theorem aCL.getj {l:List Int} {x:Int} {j:Nat} {R:List Int} (h:aCL l x j R)(e:j<l.length):R[j]'(by rw [h.len];exact e)=l[j]:=by
 have f:(R.drop j)[0]? =(l.drop j)[0]? :=by rw [h.rest]
 rw [zV,zV,Nat.add_zero,zM e,zM (by rw [h.len];exact e)] at f;exact zsi f
theorem aJD {R l:List Int} {j:Nat} (h:R.drop j=l.drop j):R.drop (j+1)=l.drop (j+1):=by rw [<-List.drop_drop,<-List.drop_drop,h]
theorem aCL.skip {l:List Int} {x:Int} {j:Nat} {R:List Int} (h:aCL l x j R)(f:j<l.length)(m:l[j]=x):aCL l x (j+1) R:=by have e:=aG5 (x:=x) f m;exact⟨by omega,h.len,by rw [e];exact h.kept,aJD h.rest⟩
theorem aCL.keep {l:List Int} {x:Int} {j:Nat} {R:List Int} (h:aCL l x j R)(B:j<l.length)(C:l[j]≠x):aCL l x (j+1) (R.set (wo (l.take j) x).length l[j]):=by
 have e:=aMR (x:=x) B C;have f:=vA l x j;have m:=h.kept;have z:=h.len;refine⟨by omega,by rw [List.length_set];exact h.len,?_,?_⟩
 ·rw [e,zF,zP];generalize wo (l.take j) x=K at m f⊢;rw [zI (by rw [List.length_set];omega),List.getElem_set_self,List.take_set_of_le (Nat.le_refl _),m]
 ·rw [List.drop_set_of_lt (by omega)];exact aJD h.rest
theorem aCL.start {l:List Int} {x:Int} {n:Nat} (D:n<l.length)(E:l[n]=x)(C:∀j (B:j<n),l[j]'(by omega)≠x):aCL l x (n+1) l/\(wo (l.take (n+1)) x).length=n:=by
 have e:=aG5 (x:=x) D E;have f:wo (l.take n) x=l.take n:=sQ λF=>by obtain⟨j,B,z⟩:=zQ F;rw [zN] at B;rw [List.getElem_take] at z;exact C j (by omega) z
 have m:(l.take n).length=n:=by rw [zN];omega
 rw [e,f];refine⟨⟨by omega,rfl,?_,rfl⟩,m⟩;rw [e,f,m]
theorem bU2(k:Nat):zL k [V.int .i64 0]=aB (zL k 0):=by rw [aB,List.map_replicate]
theorem bQI(l:List Int)(x:Int)(hl:l.length<=100000):aM Tryz.prog 337 [.row 1 (aB l),.box [.int .i64 x]] [.sl 0 0 l.length,.fn 338 [.ptr 1 0 0]] (.sl 0 0 (wo l x).length)
 [.row 1 (aB (wo l x++zL (l.length- (wo l x).length) 0)),.box [.int .i64 x]]:=by
 refine eT (ob0:= [.row 1 (aB l),.box [.int .i64 x]]) [] Tryz.func337 rfl rfl rfl rfl ?_;generalize E:wo l x=q;have Z:aM Tryz.prog 358 [] [.lst 1 false (aB l),.fn 338 [.rp 1 [.int .i64 x] 0]] (.int .i64 (eJ (λy=>y==x) l)) []:=bQN l false 338 [.rp 1 [.int .i64 x] 0] (λy=>y==x) call83 rfl (λy _=>bHO y x) (by omega);have T:((aB l).drop 0).take l.length=aB l:=dB (aA l)
 have Y:aM Tryz.prog 358 [] [.lst 1 false (((aB l).drop 0).take l.length),.fn 338 [.rp 1 [.int .i64 x] 0]] (.int .i64 (eJ (λy=>y==x) l)) []:=by rw [T];exact Z
 refine Wk ?_;refine .inl ⟨_,λ_=>⟨?_,Y⟩,.inr rfl,?_⟩
 ·intro v z;have z:v∈ [V.sl 0 0 l.length,V.fn 338 [V.ptr 1 0 0]]:=z;rcases List.mem_cons.1 z with rfl |z
  ·show 0+l.length<=(aB l).length;rw [aA];omega
  ·obtain rfl:=List.mem_singleton.1 z;intro c hc;obtain rfl:=List.mem_singleton.1 hc;exact⟨rfl,rfl⟩
 refine Wk ?_;refine aC (λG=>?_) (λG=>?_)<;> try simp only [zC,zA,zD,zE,zG] at G
 ·have G:eJ (λy=>y==x) l= -1:=by simpa using G
  have Q:x∉l:=λhm=>by have :=(uE (λy=>y==x) l).1 (by omega) x hm;simp at this
  rw [sQ Q] at E;subst E;refine Wk ?_
  try subst E
  refine⟨[some 0,some 1],?_,rfl,?_,rfl,?_⟩
  all_goals repeat' (first |exact trivial |rfl |exact .inl rfl |exact .inr rfl |exact id |exact zbc |apply And.intro)
  rw [Nat.sub_self,List.replicate_zero,List.append_nil]
 have G:eJ (λy=>y==x) l≠-1:=by simpa using G
 have ab:=(aLH (λy=>y==x) l).1;obtain⟨n,hn,N,W,hb⟩:=qQ (λy=>y==x) l (by omega);rw [N];have W:l[n]=x:=by simpa using W
 obtain⟨hD,J⟩:=aCL.start hn W λj hj=>by simpa using hb j hj
 have O:IntKind.i64.wrap ((n:Int)+1)=((n+1:Nat):Int):=by rw [aP (by omega) (by omega)];omega
 refine Wk ?_;rw [O];refine⟨Nat×List Int,λp=>aCL l x p.1 p.2,λp=>⟨[(0,⟨[],true,.sl 0 0 l.length⟩),(1,⟨[],true,.fn 338 [.ptr 1 0 0]⟩),(5,⟨[],true,.int .i64 ((wo (l.take p.1) x).length:Int)⟩),(6,⟨[],true,.int .i64 (p.1:Int)⟩)],[(0,.row 1 (aB p.2)),(1,.box [.int .i64 x])],2⟩,λp=>l.length-p.1,⟨(n+1,l),hD,?_⟩,λp C=>?_⟩
 ·refine bU [some 0,some 1] rfl rfl ?_ rfl ?_ rfl ?_
  repeat' (first |exact trivial |rfl |exact .inl rfl |exact .inr rfl |exact id |exact zbc |apply And.intro)
  show(n:Int)=((wo (l.take (n+1)) x).length:Int);rw [J]
 obtain⟨j,R⟩:=p;have C:aCL l x j R:=C;dsimp only;have ac:=C.le;have aa:=C.len;have F:=vA l x j;refine Wk ?_;refine aC (λh2=>?_) (λh2=>?_)<;> try simp only [zC,zA,zD,zE,zG] at h2
 ·have h2:j<l.length:=by simp at h2;omega
  have D:IntKind.i64.wrap ((j:Int)+1)=((j+1:Nat):Int):=by rw [aP (by omega) (by omega)];omega
  have M:=C.getj h2;have f:=λh=>C.skip h2 h;have e:=λh=>C.keep h2 h;have ws:=aG5 (x:=x) h2;have H:=aMR (x:=x) h2;refine Wk ?_;refine aG (⟨by omega,by omega⟩) ?_;refine Wk ?_;refine aG (by rw [aA,zH];omega) ?_;refine Wk ?_;rw [Nat.zero_add,zH,bS R j (by omega),M];refine Wk ?_;refine⟨call83,.inl ⟨.bool (l[j]==x),λ_=>⟨?_,bHO l[j] x⟩,.inr rfl,?_⟩⟩
  ·intro v z;have z:v∈ [V.int .i64 l[j],V.ptr 1 0 0]:=z;rcases List.mem_cons.1 z with rfl |z
   ·exact trivial
   ·obtain rfl:=List.mem_singleton.1 z;exact⟨rfl,rfl⟩
  refine Wk ?_;refine aC (λB=>?_) (λB=>?_)<;> try simp only [zC,zA,zD,zE,zG] at B
  ·have B:l[j]≠x:=by simpa using B
   have e:=e B;have H:=H B;generalize wo (l.take j) x=K at e H F⊢;refine Wk ?_;refine aG (⟨by omega,by omega⟩) ?_;refine Wk ?_;refine aG (by rw [aA,zH];omega) ?_;refine Wk ?_;rw [D,aP (n:=(K.length:Int)+1) (by omega) (by omega)];refine⟨(j+1,R.set K.length l[j]),e,?_,by show l.length- (j+1)<l.length-j;omega⟩;refine bU [some 0,some 1] rfl rfl ?_ rfl ?_ rfl ?_
   repeat' (first |exact trivial |rfl |exact .inl rfl |exact .inr rfl |exact id |exact zbc |apply And.intro)
   ·rw [Nat.zero_add,zH,bS R K.length (by omega),aB,aB,List.map_set];rfl
   ·show(K.length:Int)+1=((wo (l.take (j+1)) x).length:Int);rw [H,zF,zP];omega
  have B:l[j]=x:=by simpa using B
  have f:=f B;have ws:=ws B;refine Wk ?_;rw [D];refine⟨(j+1,R),f,?_,by show l.length- (j+1)<l.length-j;omega⟩;dsimp only;rw [ws];exact Vw [some 0,some 1]
 have h2:j=l.length:=by simp at h2;omega
 subst h2;have m:=C.kept;rw [zJ,E] at m F⊢;refine Wk ?_;refine aG (⟨by omega,by omega,by omega⟩) ?_;refine Wk ?_;have e1:((l.length:Int)).toNat- ((q.length:Int)).toNat=l.length-q.length:=by omega
 refine aG (by rw [aA];omega) ?_;refine Wk ?_;refine aG (⟨by omega,by omega,by omega⟩) ?_;refine Wk ?_
 try subst E
 refine⟨[some 0,some 1],?_,rfl,?_,rfl,?_⟩
 all_goals repeat' (first |exact trivial |rfl |exact .inl rfl |exact .inr rfl |exact id |exact zbc |apply And.intro)
 have e2:(0+((wo l x).length:Int).toNat)=(wo l x).length:=by omega
 rw [e1,e2,bU2,aB,aB,aB,List.drop_of_length_le (by rw [List.length_map];omega),List.append_nil,List.map_append,<-zS,m]
theorem aEH(l:List Int)(t:Bool)(x:Int)(j:l.length<=100000):aM Tryz.prog 288 [] [.lst 1 t (aB l),.int .i64 x] (.lst 1 false (aB (wo l x))) []:=by
 refine cK Tryz.func288 ?_;generalize f:wo l x=q;have e:=aDZ l x;refine Wk ?_;refine .inr ⟨λ_=>⟨[],_,_,_,sV (aB l) t (by rw [aA];omega),trivial,rfl,rfl,rfl,?_⟩,(by intro h;cases h)⟩
 rw [aA];refine Wk ?_;refine .inr ⟨λ_=>⟨[1,0],_,_,_,bQI l x j,⟨rfl,rfl,trivial⟩,rfl,rfl,rfl,?_⟩,(by intro h;cases h)⟩
 rw [f] at e⊢;refine Wk ?_;refine⟨[],trivial,rfl,trivial,rfl,?_⟩
 try subst f
 repeat' (first |exact trivial |rfl |exact .inl rfl |exact .inr rfl |exact id |exact zbc |apply And.intro)
 ·show 0+(wo l x).length<=_;rw [aA,zF];omega
 ·show((aB (wo l x++zL (l.length- (wo l x).length) 0)).drop 0).take (wo l x).length=aB (wo l x);rw [List.drop_zero,aB,<-zS,List.take_append_of_le_length (Nat.le_refl _),zJ];rfl
theorem aJW(l:List Int)(t:Bool)(x:Int)(e:l.length<=100000):aM Tryz.prog 241 [] [.lst 1 t (aB l),.int .i64 x] (.lst 1 false (aB (x::wo l x))) []:=by
 have f:=aDZ l x;refine cK Tryz.func241 ?_;refine cO (aEH l t x e) ?_;rw [aA];refine cA (by show((1+(wo l x).length:Nat):Int)<=_;omega) (by show(1+(wo l x).length)*8<=_;omega) ?_;refine Wk ?_;refine⟨[],trivial,rfl,trivial,rfl,?_⟩
 repeat' (first |exact trivial |rfl |exact .inl rfl |exact .inr rfl |exact id |exact zbc |apply And.intro)
 ·show 0+(1+(wo l x).length)<=([[V.int .i64 x]]++aB (wo l x)).length;rw [zF,aA];simp
 ·show zW (1+(wo l x).length) (zX 0 ([[V.int .i64 x]]++aB (wo l x)))=aB (x::wo l x);exact dB (by rw [zF,aA];simp)
structure Ls where
 A:List Int
 I:List Int
 R:List Int
def Ls.c(l:Ls):List V:= [.lst 1 false (aB l.A),.lst 1 false (aB l.I),.lst 1 false (aB l.R)]
structure dM(l:Ls):Prop where
 a:l.A.length<=10000
 i:l.I.length<=10000
 r:l.R.length<=10000
theorem aOW(l:Ls)(e:dM l):aM Tryz.prog 238 [] [.agg l.c] (.agg l.c) []:=by
 have f:=e.a;have h2:=e.i;have j:=e.r;refine cK Tryz.func238 ?_;refine Wk ?_;refine .inr ⟨λ_=>⟨[],_,_,_,sV (aB l.A) false (by rw [aA];omega),trivial,rfl,rfl,rfl,?_⟩,(by intro h;cases h)⟩
 rw [aA];refine Wk ?_;refine .inr ⟨λ_=>⟨[],_,_,_,sV (aB l.I) false (by rw [aA];omega),trivial,rfl,rfl,rfl,?_⟩,(by intro h;cases h)⟩
 rw [aA];refine Wk ?_;refine .inr ⟨λ_=>⟨[],_,_,_,sV (aB l.R) false (by rw [aA];omega),trivial,rfl,rfl,rfl,?_⟩,(by intro h;cases h)⟩
 rw [aA];refine Wk ?_;refine⟨[],trivial,rfl,trivial,rfl,?_⟩
 repeat' (first |exact trivial |rfl |exact .inl rfl |exact .inr rfl |exact id |exact zbc |apply And.intro)
 ·show 0+l.A.length<=_;rw [aA];omega
 ·exact dB (aA _)
 ·show 0+l.I.length<=_;rw [aA];omega
 ·exact dB (aA _)
 ·show 0+l.R.length<=_;rw [aA];omega
 ·exact dB (aA _)
theorem bKB(l:Ls)(e:dM l):aM Tryz.prog 238 [] [.agg l.c] (.agg [.lst 1 false (aB l.A),.lst 1 false (aB l.I),.sl 0 0 l.R.length]) [.row 1 (aB l.R)]:=by
 have f:=e.a;have h2:=e.i;have j:=e.r;refine cK Tryz.func238 ?_;refine Wk ?_;refine .inr ⟨λ_=>⟨[],_,_,_,sV (aB l.A) false (by rw [aA];omega),trivial,rfl,rfl,rfl,?_⟩,(by intro h;cases h)⟩
 rw [aA];refine Wk ?_;refine .inr ⟨λ_=>⟨[],_,_,_,sV (aB l.I) false (by rw [aA];omega),trivial,rfl,rfl,rfl,?_⟩,(by intro h;cases h)⟩
 rw [aA];refine Wk ?_;refine .inr ⟨λ_=>⟨[],_,_,_,sV (aB l.R) false (by rw [aA];omega),trivial,rfl,rfl,rfl,?_⟩,(by intro h;cases h)⟩
 rw [aA];refine Wk ?_;refine⟨[some 2176],?_,rfl,?_,rfl,?_⟩
 all_goals repeat' (first |exact trivial |rfl |exact .inl rfl |exact .inr rfl |exact id |exact zbc |apply And.intro)
 ·show 0+l.A.length<=_;rw [aA];omega
 ·exact dB (aA _)
 ·show 0+l.I.length<=_;rw [aA];omega
 ·exact dB (aA _)
def bD(b:Nat->Bool):Nat->Bool
 |0=>true
 |n+1=>bD b n&& !b n
theorem lV {b:Nat->Bool} :∀ {n i:Nat},i<n->bD b n=true->b i=false
 |0,_,h,_=>by omega
 |n+1,i,h,f=>by
  simp only [bD,zK,zD] at f
  by_cases e:i=n
  ·subst e;exact f.2
  ·exact lV (n:=n) (by omega) f.1
theorem eM {b:Nat->Bool} {n i:Nat} (h:i<n)(e:b i=true):bD b n=false:=by
 cases f:bD b n with
 |false=>rfl
 |true=>rw [lV h f] at e;cases e
theorem sG {b:Nat->Bool} :∀ {n:Nat},(∀i,i<n->b i=false)->bD b n=true
 |0,_=>rfl
 |n+1,h=>by simp only [bD,sG (n:=n) λi hi=>h i (by omega),h n (by omega)];rfl
def aF3(all:List Int)(i:Nat):Bool:= !cI (all.getD i 0)||decide (all.getD i 0∈all.take i)
def aGI(all R:List Int)(i:Nat):Bool:= !decide (R.getD i 0∈all)||(decide (0< (i:Int))&&decide (R.getD i 0<=R.getD (i-1) 0))
def dU(l:Ls):Bool:=bD (aF3 (l.A++l.I)) (l.A++l.I).length&&bD (aGI (l.A++l.I) l.R) l.R.length
theorem aOG(f:Int):(decide (f<1)||decide (64<f))= !cI f:=by
 unfold cI
 by_cases e:f<1 <;> by_cases h2:64<f <;> simp [e,h2] <;> omega
theorem aCA(a b:List Int):aB a++aB b=aB (a++b):=by rw [aB,aB,aB,List.map_append]
theorem aTL(l:Ls)(T:dM l):aM Tryz.prog 231 [] [.agg l.c] (.bool (dU l)) []:=by
 have h1:=T.a;have h2:=T.i;have h3:=T.r;have K:(l.A++l.I).length<=20000:=by rw [zF];omega
 refine cK Tryz.func231 ?_;generalize z:dU l=q;refine Wk ?_;refine .inr ⟨λ_=>⟨[],_,_,_,sV (aB l.A) false (by rw [aA];omega),trivial,rfl,rfl,rfl,?_⟩,(by intro h;cases h)⟩
 rw [aA];refine Wk ?_;refine⟨by rw [aA],by rw [aA,aA];omega,by rw [aA,aA];omega,?_⟩;refine Wk ?_;have hn:((aB l.A).length+(aB l.I).length:Nat)=(l.A++l.I).length:=by rw [aA,aA,zF]
 rw [hn,aCA];rw [dU] at z;generalize l.A++l.I=m at z K⊢
 refine⟨Nat×List (List Int×V),λp=>(p.1<=m.length/\bD (aF3 m) p.1=true)/\∀f,fJ p.2 [f] (.bool false)=.bool (decide (f∈m.take p.1)),λp=>⟨[(1,⟨[],true,.ptr 0 0 0⟩),(3,⟨[],true,.mp 1⟩),(14,⟨[],true,.lst 1 false (aB m)⟩),(15,⟨[],true,.int .i64 (m.length:Int)⟩),(16,⟨[],true,.int .i64 (p.1:Int)⟩)],
  [(0,.box l.c),(1,.mp (1,p.2))],2⟩,λp=>m.length-p.1,⟨(0,[]),⟨⟨by simp,rfl⟩,λf=>by simp [fJ]⟩,?_⟩,λp hp=>?_⟩
 ·refine bU [some 0,some 1] rfl rfl ?_ rfl ?_ rfl ?_
  repeat' (first |exact trivial |rfl |exact .inl rfl |exact .inr rfl |exact id |exact zbc |apply And.intro)
  ·show 0+m.length<=_;rw [aA];omega
  ·exact dB (aA _)
 obtain⟨i,M⟩:=p;obtain⟨⟨W,F⟩,J⟩:=hp;dsimp only at W F J⊢;refine Wk ?_;refine aC (λD=>?_) (λD=>?_)<;> try simp only [zC,zA,zD,zE,zG] at D
 ·have D:i<m.length:=by simp at D;omega
  have O:IntKind.i64.wrap ((i:Int)+1)=((i+1:Nat):Int):=by rw [aP (by omega) (by omega)];omega
  refine Wk ?_;refine aG (⟨rfl,by omega,by rw [aA];omega⟩) ?_;rw [cT m i D];have B:aF3 m i=(!cI (m.getD i 0)||decide (m.getD i 0∈m.take i)):=rfl
  have C:∀y,y∈m.take (i+1)↔y∈m.take i\/y=m.getD i 0:=λy=>by rw [zI D,List.mem_append,List.mem_singleton,fO m i D]
  generalize m.getD i 0=f at B C⊢;refine cO (bHL f) ?_;rw [J f];refine Wk ?_;refine aC (λG=>?_) (λG=>?_)<;> try simp only [zC,zA,zD,zE,zG] at G
  ·have G:aF3 m i=true:=by rw [B,<-G]
   rw [eM D G] at z;have z:q=false:=by rw [<-z];rfl
   subst z;refine Wk ?_
   try subst z
   exact Lf
  have G:aF3 m i=false:=by rw [B,<-G]
  refine Wk ?_;rw [O];refine⟨(i+1,iU M [f] (.bool true)),⟨⟨by show i+1<=_;omega,by show bD (aF3 m) (i+1)=true;simp only [bD,F,G];rfl⟩,λy=>?_⟩,?_,by show m.length- (i+1)<m.length-i;omega⟩
  ·show fJ (iU M [f] (.bool true)) [y] (.bool false)=.bool (decide (y∈m.take (i+1)));rw [aDE,J y];simp only [List.cons.injEq,and_true]
   by_cases e:y=f
   ·rw [if_pos e,show decide (y∈m.take (i+1))=true by rw [decide_eq_true_eq,C];exact .inr e]
   ·rw [if_neg e]
    congr 1
    exact decide_eq_decide.2 (by rw [C];exact⟨.inl,λh=>h.resolve_right e⟩)
  exact Vw [some 0,some 1]
 have D:i=m.length:=by simp at D;omega
 subst D;rw [zJ] at J;rw [F,zR] at z;refine Wk ?_;rw [aA]
 refine⟨Nat,λj=>j<=l.R.length/\bD (aGI m l.R) j=true,λj=>⟨[(1,⟨[],true,.ptr 0 0 0⟩),(3,⟨[],true,.mp 1⟩),(32,⟨[],true,.lst 1 false (aB l.R)⟩),(33,⟨[],true,.int .i64 (l.R.length:Int)⟩),(34,⟨[],true,.int .i64 (j:Int)⟩)],
  [(0,.box l.c),(1,.mp (1,M))],2⟩,λj=>l.R.length-j,⟨0,⟨by omega,rfl⟩,?_⟩,λj Y=>?_⟩
 ·exact Vw [some 0,some 1]
 obtain⟨Z,N⟩:=Y;refine Wk ?_;refine aC (λE=>?_) (λE=>?_)<;> try simp only [zC,zA,zD,zE,zG] at E
 ·have E:j<l.R.length:=by simp at E;omega
  have Q:IntKind.i64.wrap ((j:Int)+1)=((j+1:Nat):Int):=by rw [aP (by omega) (by omega)];omega
  refine Wk ?_;refine aG (⟨rfl,by omega,by rw [aA];omega⟩) ?_;rw [cT l.R j E];refine Wk ?_;rw [J];refine Wk ?_;rw [aC1 j (by omega),rD j (by omega)];refine kE (λhg=>⟨rfl,?_,by rw [aA];omega⟩) ?_
  ·simp only [zK,decide_eq_true_eq] at hg;omega
  rw [bS l.R (j-1) (by omega),fO l.R (j-1) (by omega)];refine Wk ?_;have B:aGI m l.R j=(!decide (l.R.getD j 0∈m)||(decide (0< (j:Int))&&decide (l.R.getD j 0<=l.R.getD (j-1) 0))):=rfl
  refine aC (λH=>?_) (λH=>?_)<;> try simp only [zC,zA,zD,zE,zG] at H
  ·have H:aGI m l.R j=true:=by rw [B,<-H]
   rw [eM E H] at z;subst z;refine Wk ?_
   try subst z
   exact Lf
  have H:aGI m l.R j=false:=by rw [B,<-H]
  refine Wk ?_;rw [Q];refine⟨j+1,⟨by show j+1<=_;omega,by simp only [bD,N,H];rfl⟩,?_,by show l.R.length- (j+1)<l.R.length-j;omega⟩;exact Vw [some 0,some 1]
 have E:j=l.R.length:=by simp at E;omega
 rw [<-E,N] at z;subst z;refine Wk ?_
 try subst z
 exact Lf
theorem aOU(l:Ls)(K:dM l):aM Tryz.prog 195 [] [.agg l.c] (.bool (dU l)) []:=by
 have h1:=K.a;have h2:=K.i;have h3:=K.r;have D:(l.A++l.I).length<=20000:=by rw [zF];omega
 refine cK Tryz.func195 ?_;generalize z:dU l=q;refine Wk ?_;refine⟨by rw [aA];omega,by rw [aA];omega,?_⟩;refine Wk ?_;refine⟨by rw [aA,aA];omega,by rw [aA,aA];omega,?_⟩;refine Wk ?_;have Y:((aB l.A).length+(aB l.I).length:Nat)=(l.A++l.I).length:=by rw [aA,aA,zF]
 rw [Y,aCA];rw [dU] at z;generalize l.A++l.I=m at z D⊢
 refine⟨Nat,λi=>i<=m.length/\bD (aF3 m) i=true,λi=>⟨[(1,⟨[],true,.ptr 0 0 0⟩),(3,⟨[],true,.lst 1 false (aB m)⟩),(4,⟨[],true,.int .i64 (i:Int)⟩)],
  [(0,.box l.c)],1⟩,λi=>m.length-i,⟨0,⟨by omega,rfl⟩,?_⟩,λi Q=>?_⟩
 ·refine bU [some 0] rfl rfl ?_ rfl ?_ rfl ?_
  repeat' (first |exact trivial |rfl |exact .inl rfl |exact .inr rfl |exact id |exact zbc |apply And.intro)
  ·show 0+m.length<=_;rw [aA];omega
  ·exact dB (aA _)
 obtain⟨Z,G⟩:=Q;refine Wk ?_;rw [aA];refine aC (λB=>?_) (λB=>?_)<;> try simp only [zC,zA,zD,zE,zG] at B
 ·have B:i<m.length:=by simp at B;omega
  have H:IntKind.i64.wrap ((i:Int)+1)=((i+1:Nat):Int):=by rw [aP (by omega) (by omega)];omega
  refine Wk ?_;refine⟨λ_=>⟨rfl,by omega,by rw [aA];omega⟩,?_⟩;rw [cT m i B];refine Wk ?_;refine⟨λ_=>⟨rfl,by omega,by rw [aA];omega⟩,?_⟩;rw [cT m i B];refine Wk ?_;refine⟨λ_=>⟨.inl rfl,Int.le_refl _,by omega,by rw [aA];omega⟩,?_⟩;rw [show zX (Int.toNat 0) (zW ((i:Int)).toNat (aB m))=aB (m.take i) by rw [zH,aB,aB,zS];rfl];refine Wk ?_;refine⟨λ_=>⟨rfl,by omega,by rw [aA];omega⟩,?_⟩;rw [cT m i B];have E:aF3 m i=(!cI (m.getD i 0)||decide (m.getD i 0∈m.take i)):=rfl
  generalize m.getD i 0=f at E⊢;have M:((m.take i).length:Int)<2^62:=by rw [zN];omega
  refine cO (aBW (m.take i) false f M) ?_;rw [atM];have e:(bif bif decide (f<1) then true else decide (64<f) then true else decide (f∈m.take i))=aF3 m i:=by rw [E,<-aOG];rfl
  rw [e];refine aC (λN=>?_) (λN=>?_)<;> try simp only [zC,zA,zD,zE,zG] at N
  ·rw [eM B N] at z;have z:q=false:=by rw [<-z];rfl
   subst z;refine Wk ?_
   try subst z
   exact Lf
  refine Wk ?_;rw [H];refine⟨i+1,⟨by show i+1<=_;omega,by simp only [bD,G,N];rfl⟩,?_,by show m.length- (i+1)<m.length-i;omega⟩;exact Vw [some 0]
 have B:i=m.length:=by simp at B;omega
 subst B;rw [G,zR] at z;refine Wk ?_
 refine⟨Nat,λj=>j<=l.R.length/\bD (aGI m l.R) j=true,λj=>⟨[(1,⟨[],true,.ptr 0 0 0⟩),(3,⟨[],true,.lst 1 false (aB m)⟩),(5,⟨[],true,.int .i64 (j:Int)⟩)],
  [(0,.box l.c)],1⟩,λj=>l.R.length-j,⟨0,⟨by omega,rfl⟩,?_⟩,λj T=>?_⟩
 ·exact Vw [some 0]
 obtain⟨W,F⟩:=T;refine Wk ?_;rw [aA];refine aC (λC=>?_) (λC=>?_)<;> try simp only [zC,zA,zD,zE,zG] at C
 ·have C:j<l.R.length:=by simp at C;omega
  have J:IntKind.i64.wrap ((j:Int)+1)=((j+1:Nat):Int):=by rw [aP (by omega) (by omega)];omega
  refine Wk ?_;refine⟨λ_=>⟨rfl,by omega,by rw [aA];omega⟩,?_⟩;rw [cT l.R j C];refine cO (aBW m false (l.R.getD j 0) (by omega)) ?_;refine⟨λ_=>⟨rfl,by omega,by rw [aA];omega⟩,?_⟩;rw [cT l.R j C];refine Wk ?_;rw [aC1 j (by omega),rD j (by omega)];refine⟨λhg=>⟨rfl,?_,by rw [aA];omega⟩,?_⟩
  ·simp only [zK,decide_eq_true_eq] at hg;omega
  rw [bS l.R (j-1) (by omega),fO l.R (j-1) (by omega)];refine Wk ?_;rw [atN];have e:(bif decide (l.R.getD j 0∉m) then true else bif decide (0< (j:Int)) then decide (l.R.getD j 0<=l.R.getD (j-1) 0) else false)=aGI m l.R j:=by rw [aGI,decide_not];cases decide (l.R.getD j 0∈m)<;> cases decide (0< (j:Int))<;> rfl
  rw [e];refine aC (λO=>?_) (λO=>?_)<;> try simp only [zC,zA,zD,zE,zG] at O
  ·rw [eM C O] at z;subst z;refine Wk ?_
   try subst z
   exact Lf
  refine Wk ?_;rw [J];refine⟨j+1,⟨by show j+1<=_;omega,by simp only [bD,F,O];rfl⟩,?_,by show l.R.length- (j+1)<l.R.length-j;omega⟩;exact Vw [some 0]
 have C:j=l.R.length:=by simp at C;omega
 rw [<-C,F] at z;subst z;refine Wk ?_
 try subst z
 exact Lf
end Go.Proofs.YtmhapcbjjpadnaaGreat
