/- Caches. -/
import Derived.Test.YtmhapcbjjpadnaaGreatG3o
set_option linter.all false
set_option maxHeartbeats 16000000
set_option maxRecDepth 40000
open Bool renaming not_eq_true'→zC,cond_false_right→zD,cond_true_left→zE,not_eq_false'→zF,or_eq_false_iff→zI,not_not→zJ,and_eq_true→zL,not_true→zU
open Int renaming toNat_natCast→zK,natCast_nonneg→zN
open List renaming getElem_of_mem→zA,take_succ_eq_append_getElem→zG,getElem_mem→zH,drop_append_of_le_length→zM,length_append→zO,getElem?_eq_getElem→zP,getElem_cons_zero→zQ,getElem_cons_succ→zR,mem_of_mem_drop→zS,takeWhile_cons→zT,drop_sublist→zV,getElem_drop→zW,getElem?_map→zX,length_cons→zY,length_drop→zZ
namespace Go.Proofs.YtmhapcbjjpadnaaGreat
open Go Go.Sk Go.RowKit
theorem aJ2:∀(l:List Int) (x:Int) (j:Nat),j<fB l x->l.getD j 0<x
 | [],_,j,h=>by simp [fB] at h
 |y::r,x,j,h=>by
  simp only [fB,zT] at h;split at h
  ·rename_i e
   cases j with
   |zero=>simpa using e
   |succ j=>simpa using aJ2 r x j (by simpa [fB] using h)
  ·simp at h
theorem aJ1:∀(l:List Int) (x:Int),fB l x<l.length->x<=l.getD (fB l x) 0
 | [],_,h=>by simp [fB] at h
 |y::r,x,h=>by
  simp only [fB,zT] at h⊢;split
  ·rename_i e;rw [if_pos e] at h;simpa [fB] using aJ1 r x (by simpa [fB] using h)
  ·rename_i e;simpa using e
theorem kY {l:List Int} (m:l.Pairwise (·< ·))(i j:Nat)(e:i<j)(f:j<l.length):l.getD i 0<l.getD j 0:=by rw [<-fI l i (by omega),<-fI l j f];exact List.pairwise_iff_getElem.1 m i j (by omega) f e
theorem aWD {l:List Int} (B:l.Pairwise (·< ·)) {x:Int} {k:Nat} (z:k<l.length)(h:l.getD k 0=x):aBK l x=true:=by
 have :fB l x=k:=aO9 l x k (by omega) (λj m=>by rw [<-h];exact kY B j k m z) (λj m f=>by
  by_cases e:j=k
  ·rw [e,h];exact Int.le_refl _
  ·have :=kY B k j (by omega) f;omega)
 rw [aBK,this,h,show decide (k<l.length)=true by simpa using z];simp
theorem bGO {l:List Int} {x:Int} (h:∀k,k<l.length->l.getD k 0≠x):aBK l x=false:=by
 rw [aBK]
 by_cases e:fB l x<l.length
 ·rw [show decide (fB l x<l.length)=true by simpa using e];simpa using h _ e
 ·rw [show decide (fB l x<l.length)=false by simpa using e];rfl
def pJ(l:List Int)(f:Int)(k:Nat):List Int:=if k<=fB l f then l.take k else gX (l.take k) (fB l f) f
theorem aL1(l:List Int)(f:Int)(k:Nat)(e:k<=l.length):(pJ l f k).length<=k+1:=by
 unfold pJ;split
 ·simp;omega
 ·rw [lQ];simp;omega
theorem aL2 {l:List Int} {f:Int} (h:fB l f<l.length):pJ l f (fB l f)++ [f]++ [l.getD (fB l f) 0]=pJ l f (fB l f+1):=by
 rw [pJ,if_pos (Nat.le_refl _),pJ,if_neg (by omega),gX,<-fI l _ h,List.take_take,Nat.min_eq_left (by omega),List.append_assoc]
 congr 1
 rw [zG h,zM (by simp;omega),List.drop_of_length_le (by simp;omega)];rfl
theorem aHF {l:List Int} {f:Int} {k:Nat} (j:k<l.length)(h:k≠fB l f):pJ l f k++ [l.getD k 0]=pJ l f (k+1):=by
 rw [<-fI l k j];unfold pJ
 by_cases e:k<=fB l f
 ·rw [if_pos e,if_pos (by omega),zG j]
 ·rw [if_neg e,if_neg (by omega),gX,gX,zG j,List.take_append_of_le_length (by simp;omega),zM (by simp;omega)];simp
theorem aL0(l:List Int)(f:Int):(if fB l f<l.length then pJ l f l.length else pJ l f l.length++ [f])=gX l (fB l f) f:=by
 have :=vC l f;unfold pJ;split
 ·rw [if_neg (by omega),List.take_length]
 ·have e:fB l f=l.length:=by omega
  rw [if_pos (by omega),e,gX];simp
theorem cX(L:List Int)(k:Nat)(h:k<L.length):(aB L).getD ((k:Int)).toNat []=[.int .i64 (L.getD k 0)]:=by rw [zK,bN L k h,fI L k h]
theorem bML(l:List Zn)(t:Bool)(f:Int)(hl:fO l):aN Tryz.prog 251 [] [.lst 6 t (aJ l),.int .i64 f] (.tup [.lst 6 false (aJ (eN l l f).1),.int .i64 (eN l l f).2]) []:=by
 have hlen:=hl.len;refine eX (ob0:= []) [.c 63,.c 77,.r 82] Tryz.func251 rfl rfl rfl rfl ?_;generalize hk:eN l l f=q;refine cS (aXJ l t hl) ?_;refine aC (λh1=>?_) (λh1=>?_)<;> try simp only [zE,zD,zC,zF,zJ] at h1
 ·have h1:(!aX l)=true:=by rw [h1];rfl
  simp only [eN,h1,zct] at hk;subst hk;refine Wk ?_
  try subst hk
  exact Lf
 have h1':aX l=true:=by simpa using h1
 have h1:(!aX l)=false:=by rw [h1'];rfl
 have hg:=qN h1';simp only [eN,h1,zcf] at hk;refine Wk ?_;refine⟨Nat,λi=>i<=l.length/\∀j (hj:j<l.length),j<i->inG f l[j]=false,λi=>⟨[(0,⟨[],true,.lst 6 t (aJ l)⟩),(1,⟨[],true,.int .i64 f⟩),(6,⟨[],true,.int .i64 (i:Int)⟩)],[],0⟩,λi=>l.length-i,⟨0,⟨by omega,λj hj h=>by omega⟩,?_⟩,λi hI=>?_⟩
 ·exact Vw []
 obtain⟨hI1,hI2⟩:=hI;refine Wk ?_;rw [aE];refine aC (λh3=>?_) (λh3=>?_)<;> try simp only [zE,zD,zC,zF,zJ] at h3
 ·have h3:i<l.length:=by simp at h3;omega
  have hgn:=hg l[i] (zH h3);have hfn:=hl.free l[i] (zH h3);have hpw:=aB8 _ _ _ hgn.asc;refine Wk ?_;refine aG (⟨rfl,by omega,by rw [aE];omega⟩) ?_;rw [zK,eU l i h3];refine Wk ?_;refine aC (λh4=>?_) (λh4=>?_)<;> try simp only [zE,zD,zC,zF,zJ] at h4
  ·have h4:inG f l[i]=false:=by have e:=hgn.stop;have e1:=hgn.first;have e2:=hgn.size;rw [inG,kL];rw [aO (by omega) (by omega)] at h4⊢;simp at h4⊢;omega
   refine Wk ?_;rw [aO (n:=(i:Int)+1) (by omega) (by omega),show((i:Int)+1)=((i+1:Nat):Int) by omega];refine⟨i+1,⟨by show i+1<=_;omega,λj hj hj'=>?_⟩,?_,by show l.length- (i+1)<l.length-i;omega⟩
   ·have hj':j<i+1:=hj'
    by_cases e:j=i
    ·subst e;exact h4
    ·exact hI2 j hj (by omega)
   exact Vw []
  have h4:inG f l[i]=true:=by have e:=hgn.stop;have e1:=hgn.first;have e2:=hgn.size;rw [inG,kL];rw [aO (by omega) (by omega)] at h4⊢;simp at h4⊢;omega
  have hix:dZ (inG f) l=i:=qX _ _ i h3 (λj hj=>hI2 j (by omega) hj) h4;rw [hix] at hk;rw [show decide (((i:Nat):Int)<0)=false by simp,zcf,zK,aDG l i h3] at hk;generalize hz:l[i]=z at hgn hfn hpw h4 hk;have hpl:=vC z.free f;refine Wk ?_
  refine⟨Nat×List Int,λy=>(y.1<=z.free.length/\∀j,j<y.1->z.free.getD j 0≠f)/\y.2=pJ z.free f y.1,λy=>⟨[(0,⟨[],true,.lst 6 t (aJ l)⟩),(1,⟨[],true,.int .i64 f⟩),(6,⟨[],true,.int .i64 (i:Int)⟩),(7,⟨[],true,.ptr 0 0 0⟩),(8,⟨[],true,.sl 1 0 y.2.length⟩),(9,⟨[],true,.bool (decide (fB z.free f<y.1))⟩),(10,⟨[],true,.int .i64 (y.1:Int)⟩)],
   [(0,.box [.int .i64 z.first,.int .i64 z.size,.int .i64 z.min,.int .i64 z.low,.int .i64 z.high,.lst 1 z.ex (aB z.free)]),(1,.row 1 (aB y.2))],2⟩,λy=>z.free.length-y.1,⟨(0,[]),⟨⟨by simp,λj hj=>by simp at hj⟩,by show []=pJ z.free f 0;rw [pJ,if_pos (by omega),List.take_zero]⟩,?_⟩,λy hk'=>?_⟩
  ·exact Vw [some 0,none]
  obtain⟨k,acc⟩:=y;obtain⟨⟨hk1,hk2⟩,hacc⟩:=hk';simp only at hk1 hk2 hacc;have hal:=aL1 z.free f k hk1;refine Wk ?_;rw [aA];refine aC (λh5=>?_) (λh5=>?_)<;> try simp only [zE,zD,zC,zF,zJ] at h5
  ·have h5:k<z.free.length:=by simp at h5;omega
   refine Wk ?_;have hb:(k:Int)< ((aB z.free).length:Int):=by rw [aA];exact Int.ofNat_lt.2 h5
   refine aG (⟨rfl,zN k,hb⟩) ?_;rw [cX z.free k h5];refine Wk ?_;refine aC (λh6=>?_) (λh6=>?_)<;> try simp only [zE,zD,zC,zF,zJ] at h6
   ·have h6:z.free.getD k 0=f:=by simpa using h6
    rw [aWD hpw h5 h6,zct] at hk;subst hk;refine Wk ?_
    try subst hk
    exact Lf
   have h6:z.free.getD k 0≠f:=by simpa using h6
   refine Wk ?_;generalize hm:(bif decide (fB z.free f=k) then acc++ [f] else acc)=mid
   refine⟨Unit,λ_=>True,λ_=>⟨[(0,⟨[],true,.lst 6 t (aJ l)⟩),(1,⟨[],true,.int .i64 f⟩),(6,⟨[],true,.int .i64 (i:Int)⟩),(7,⟨[],true,.ptr 0 0 0⟩),(8,⟨[],true,.sl 1 0 mid.length⟩),(9,⟨[],true,.bool (decide (fB z.free f<k+1))⟩),(10,⟨[],true,.int .i64 (k:Int)⟩)],
    [(0,.box [.int .i64 z.first,.int .i64 z.size,.int .i64 z.min,.int .i64 z.low,.int .i64 z.high,.lst 1 z.ex (aB z.free)]),(1,.row 1 (aB mid))],2⟩,?_,λ_ _=>?_⟩
   ·refine Wk ?_;refine iE (λ_=>⟨rfl,zN k,hb⟩) ?_;rw [cX z.free k h5];refine Wk ?_;refine aC (λh7=>?_) (λh7=>?_)<;> try simp only [zE,zD,zC,zF,zJ] at h7
    ·have h7:(!decide (fB z.free f<k)&&decide (f<z.free.getD k 0))=true:=by simpa using h7
     have e7:fB z.free f=k:=by simp only [zL,zC,zdn,decide_eq_true_eq] at h7;have :=λh=>aJ2 z.free f k h;omega
     have hm:acc++ [f]=mid:=by rw [<-hm,show decide (fB z.free f=k)=true by simpa using e7];rfl
     subst hm;refine Wk ?_;refine aG ((aA acc).symm) (cC (by show(((aB acc).length+1:Nat):Int)<=_;rw [aA,hacc];omega) (by show((aB acc).length+1)*8<=_;rw [aA,hacc];omega) ?_);refine Wk ?_;refine⟨(),trivial,?_⟩;refine bS [some 0,some ?k172_1] rfl rfl ?h3_172 ?h4_172 ?h5_172 ?h6_172 ?h7_172
     case' h7_172=>repeat' (first |exact trivial |rfl |exact .inl rfl |exact .inr rfl |exact id |exact zbc |apply And.intro)
     case' h4_172=>rfl
     case' h6_172=>rfl
     case' h3_172=>repeat' (first |exact trivial |rfl |exact .inl rfl |exact .inr rfl |exact id |exact zbc |apply And.intro)
     case' h5_172=>repeat' (first |exact trivial |rfl |exact .inl rfl |exact .inr rfl |exact id |exact zbc |apply And.intro)
     ·exact fS acc f
     ·show(aB acc).length+1=_;rw [aA,zO];rfl
     ·show true=decide (fB z.free f<k+1);simp;omega
    have h7:(!decide (fB z.free f<k)&&decide (f<z.free.getD k 0))=false:=by simpa using h7
    have e7:fB z.free f≠k:=by intro e;have :=aJ1 z.free f (by omega);rw [e] at this;rw [e,show decide (k<k)=false by simp,Bool.not_false,Bool.true_and,zdn] at h7;omega
    have hm:acc=mid:=by rw [<-hm,show decide (fB z.free f=k)=false by simpa using e7];rfl
    subst hm;refine Wk ?_;refine⟨(),trivial,?_⟩;refine bS [some 0,some 1] rfl rfl ?_ rfl ?_ rfl ?_
    repeat' (first |exact trivial |rfl |exact .inl rfl |exact .inr rfl |exact id |exact zbc |apply And.intro)
    exact decide_eq_decide.2 (by show fB z.free f<k↔fB z.free f<k+1;omega)
   refine Wk ?_
   have hml:mid.length<=k+2:=by
    rw [<-hm]
    cases decide (fB z.free f=k) with
    |true=>show(acc++ [f]).length<=_;rw [hacc];have :=hal;simp;omega
    |false=>show acc.length<=_;rw [hacc];omega
   refine aG (⟨rfl,zN k,hb⟩) ?_;rw [cX z.free k h5];refine Wk ?_;refine aG ((aA mid).symm) (cC (by show(((aB mid).length+1:Nat):Int)<=_;rw [aA];omega) (by show((aB mid).length+1)*8<=_;rw [aA];omega) ?_);refine Wk ?_;rw [aO (n:=(k:Int)+1) (by omega) (by omega),show((k:Int)+1)=((k+1:Nat):Int) by omega]
   have hnext:mid++ [z.free.getD k 0]=pJ z.free f (k+1):=by
    by_cases e:fB z.free f=k
    ·rw [<-hm,show decide (fB z.free f=k)=true by simpa using e,zct,hacc,<-e];exact aL2 (by omega)
    ·rw [<-hm,show decide (fB z.free f=k)=false by simpa using e,zcf,hacc];exact aHF h5 (λh=>e h.symm)
   refine⟨(k+1,mid++ [z.free.getD k 0]),⟨⟨by show k+1<=_;omega,λj hj=>?_⟩,hnext⟩,?_,by show z.free.length- (k+1)<z.free.length-k;omega⟩
   ·have hj:j<k+1:=hj
    by_cases e:j=k
    ·rw [e];exact h6
    ·exact hk2 j (by omega)
   refine bS [some 0,some ?k220_1] rfl rfl ?h3_220 ?h4_220 ?h5_220 ?h6_220 ?h7_220
   case' h7_220=>repeat' (first |exact trivial |rfl |exact .inl rfl |exact .inr rfl |exact id |exact zbc |apply And.intro)
   case' h4_220=>rfl
   case' h6_220=>rfl
   case' h3_220=>repeat' (first |exact trivial |rfl |exact .inl rfl |exact .inr rfl |exact id |exact zbc |apply And.intro)
   case' h5_220=>repeat' (first |exact trivial |rfl |exact .inl rfl |exact .inr rfl |exact id |exact zbc |apply And.intro)
   ·exact fS mid _
   ·show(aB mid).length+1=_;rw [aA,zO];rfl
  have h5:k=z.free.length:=by simp at h5;omega
  subst h5;rw [bGO hk2,zcf] at hk;refine Wk ?_;generalize hr:gX z.free (fB z.free f) f=res;have hrl:res.length=z.free.length+1:=by rw [<-hr,lQ]
  have hend:=aL0 z.free f;rw [<-hacc,hr] at hend
  refine⟨Unit,λ_=>True,λ_=>⟨[(0,⟨[],true,.lst 6 t (aJ l)⟩),(6,⟨[],true,.int .i64 (i:Int)⟩),(7,⟨[],true,.ptr 0 0 0⟩),(8,⟨[],true,.sl 1 0 res.length⟩)],
   [(0,.box [.int .i64 z.first,.int .i64 z.size,.int .i64 z.min,.int .i64 z.low,.int .i64 z.high,.lst 1 z.ex (aB z.free)]),(1,.row 1 (aB res))],2⟩,?_,λ_ _=>?_⟩
  ·refine Wk ?_;refine aC (λh7=>?_) (λh7=>?_)<;> try simp only [zE,zD,zC,zF,zJ] at h7
   ·have h7:decide (fB z.free f<z.free.length)=false:=h7;have hend:acc++ [f]=res:=by rw [<-hend,if_neg (by simpa using h7)]
    subst hend;refine Wk ?_;refine aG ((aA acc).symm) (cC (by show(((aB acc).length+1:Nat):Int)<=_;rw [aA];simp at hrl;omega) (by show((aB acc).length+1)*8<=_;rw [aA];simp at hrl;omega) ?_);refine Wk ?_;refine⟨(),trivial,?_⟩;refine bS [some 0,some ?k248_1] rfl rfl ?h3_248 ?h4_248 ?h5_248 ?h6_248 ?h7_248
    case' h7_248=>repeat' (first |exact trivial |rfl |exact .inl rfl |exact .inr rfl |exact id |exact zbc |apply And.intro)
    case' h4_248=>rfl
    case' h6_248=>rfl
    case' h3_248=>repeat' (first |exact trivial |rfl |exact .inl rfl |exact .inr rfl |exact id |exact zbc |apply And.intro)
    case' h5_248=>repeat' (first |exact trivial |rfl |exact .inl rfl |exact .inr rfl |exact id |exact zbc |apply And.intro)
    ·exact fS acc f
    ·show(aB acc).length+1=_;rw [aA,zO];rfl
   have h7:decide (fB z.free f<z.free.length)=true:=h7;have hend:acc=res:=by rw [<-hend,if_pos (by simpa using h7)]
   subst hend;refine Wk ?_;refine⟨(),trivial,?_⟩;exact Vw [some 0,some 1]
  refine Wk ?_;refine⟨Unit,λ_=>True,λ_=>⟨[(0,⟨[],true,.lst 6 t (aJ l)⟩),(6,⟨[],true,.int .i64 (i:Int)⟩),(7,⟨[],true,.ptr 0 0 0⟩)],[(0,.box (Zn.c ⟨z.first,z.size,z.min,z.low,z.high,res,false⟩))],1⟩,?_,λ_ _=>?_⟩
  ·refine Wk ?_;refine⟨(),trivial,?_⟩;refine bS [some 0] rfl rfl ?_ rfl ?_ rfl ?_
   repeat' (first |exact trivial |rfl |exact .inl rfl |exact .inr rfl |exact id |exact zbc |apply And.intro)
   ·show 0+res.length<=_;rw [aA];omega
   ·exact dI (aA _)
  refine cS (bEH l t i ⟨z.first,z.size,z.min,z.low,z.high,res,false⟩ h3 hlen) ?_;subst hk;refine⟨[],trivial,rfl,trivial,rfl,?_⟩
  try subst hk
  repeat' (first |exact trivial |rfl |exact .inl rfl |exact .inr rfl |exact id |exact zbc |apply And.intro)
  rw [<-hr];rfl
 have h3:i=l.length:=by simp at h3;omega
 subst h3;have hnone:dZ (inG f) l= -1:=kU _ _ λz hz=>by obtain⟨j,hj,rfl⟩:=zA hz;exact hI2 j hj hj
 rw [hnone] at hk;have hk:(l,(2:Int))=q:=hk;subst hk;refine Wk ?_
 try subst hk
 exact Lf
structure kS(lo hi:Int)(l:List Int):Prop where
 asc:l.Pairwise (·< ·)
 inn:∀x∈l,lo<=x/\x<hi
theorem aL6(lo hi:Int)(l:List Int):uP lo hi l l.length=true↔kS lo hi l:=by
 constructor
 ·intro h;refine⟨aB8 lo hi l h,λx B=>?_⟩;obtain⟨i,j,rfl⟩:=zA B;have :=tU lo hi l l.length i j h;simp only [lH,zI,zdn] at this;rw [fI l i j];omega
 ·intro h
  have :∀n,n<=l.length->uP lo hi l n=true:=by
   intro n
   induction n with
   |zero=>intro _;rfl
   |succ n C=>
    intro D;have f:n<l.length:=by omega
    simp only [uP,zL,zC,C (by omega),true_and];have m:=h.inn l[n] (zH f);rw [fI l n f] at m
    have z:(decide (0< (n:Int))&&decide (l.getD n 0<=l.getD (n-1) 0))=false:=by
     by_cases e:n=0
     ·simp [e]
     ·have :=kY h.asc (n-1) n (by omega) f;rw [show decide (l.getD n 0<=l.getD (n-1) 0)=false from by simp only [zdn];omega,Bool.and_false]
    simp only [lH,zI,zdn,z,and_true];omega
  exact this _ (Nat.le_refl _)
theorem kS.len:∀ {l:List Int} {lo hi:Int},kS lo hi l->lo<=hi->(l.length:Int)<=hi-lo
 | [],_,_,_,h=>by simp;omega
 |x::r,lo,hi,h,_=>by have j:=h.inn x (by simp);have e:=List.pairwise_cons.1 h.asc;have :=kS.len (l:=r) (lo:=x+1) (hi:=hi) ⟨e.2,λy f=>⟨by have :=e.1 y f;omega,(h.inn y (by simp [f])).2⟩⟩ (by omega);simp only [zY];omega
theorem kS.drop {lo hi:Int} {l:List Int} (h:kS lo hi l)(n:Nat):kS lo hi (l.drop n):= ⟨h.asc.sublist (zV n l),λx e=>h.inn x (zS e)⟩
theorem aAE {l:List Int} {i:Nat} {x y:Int} :y∈gX l i x↔y=x\/y∈l:=by
 rw [gX,List.mem_append,List.mem_cons];constructor
 ·rintro (h |h |h)
  ·exact .inr (List.mem_of_mem_take h)
  ·exact .inl h
  ·exact .inr (zS h)
 ·rintro (h |h)
  ·exact .inr (.inl h)
  ·rw [<-List.take_append_drop i l,List.mem_append] at h;rcases h with h |h
   ·exact .inl h
   ·exact .inr (.inr h)
theorem aJG {l:List Int} (j:l.Pairwise (·< ·))(x:Int):aBK l x=true↔x∈l:=by
 constructor
 ·intro h;rw [aBK] at h
  by_cases e:fB l x<l.length
  ·rw [show decide (fB l x<l.length)=true by simpa using e,zct] at h;have :l.getD (fB l x) 0=x:=by simpa using h
   rw [<-this,<-fI l _ e];exact zH e
  ·rw [show decide (fB l x<l.length)=false by simpa using e] at h;cases h
 ·intro h;obtain⟨i,f,rfl⟩:=zA h;exact aWD j f (fI l i f).symm
theorem kS.ins {lo hi:Int} {l:List Int} (h:kS lo hi l) {f:Int} (E:lo<=f/\f<hi)(H:f∉l):kS lo hi (gX l (fB l f) f):=by
 refine⟨?_,λx C=>?_⟩
 ·have G:=vC l f;rw [gX,List.pairwise_append];refine⟨h.asc.sublist (List.take_sublist _ l),List.pairwise_cons.2 ⟨λy J=>?_,h.asc.sublist (zV _ l)⟩,λa D b z=>?_⟩
  ·obtain⟨j,B,rfl⟩:=zA J;rw [zZ] at B;rw [zW,fI l _ (by omega)];have m:fB l f<l.length:=by omega
   have K:=aJ1 l f m;have h2:l.getD (fB l f+j) 0≠f:=λe=>H (by rw [<-e,<-fI l _ (by omega)];exact zH _)
   by_cases e:j=0
   ·subst e;rw [Nat.add_zero] at h2⊢;omega
   ·have :=kY h.asc (fB l f) (fB l f+j) (by omega) (by omega);omega
  ·obtain⟨j,B,rfl⟩:=zA D;rw [List.length_take] at B;have m:l[j]'(by omega)<f:=by rw [fI l j (by omega)];exact aJ2 l f j (by omega)
   rw [List.getElem_take];rcases List.mem_cons.1 z with rfl |z
   ·exact m
   ·obtain⟨k,F,rfl⟩:=zA z;rw [zZ] at F;rw [zW,fI l j (by omega),fI l _ (by omega)];exact kY h.asc _ _ (by omega) (by omega)
 ·rcases aAE.1 C with rfl |C
  ·exact E
  ·exact h.inn x C
structure RZ(f:Int)(z:Zn):Prop where
 first :z.first=f
 size:1<=z.size/\z.size<=64
 stop:f+z.size<=65
 marks:0<=z.min/\z.min<=z.low/\z.low<=z.high/\z.high<=z.size
 free:kS f (f+z.size) z.free
theorem aC0 {z:Zn} {f:Int} (D:1<=f/\f<=65):jP z f=true↔RZ f z:=by
 constructor
 ·intro h;obtain⟨g,e,h2⟩:=rJ D h;have j:=g.stop;rw [e] at j;refine⟨e,g.size,j,g.marks,?_⟩;have :=(aL6 _ _ _).1 g.asc
  rwa [e] at this
 ·intro h;have e:=h.first;have h2:=h.size;have E:=h.stop;have h4:=h.marks;have C:kL z=f+z.size:=by rw [kL,aO (by omega) (by omega)];omega
  have m:jH z f=false:=by simp only [jH,zI,zdn,bne_eq_false_iff_eq];omega
  have B:kN z=false:=by simp only [kN,zI,zdn];omega
  rw [jP,m,B,zcf,zcf,C,e];exact(aL6 _ _ _).2 h.free
def uN:Int->List Zn->Prop
 |_,[]=>True
 |f,z::r=>RZ f z/\uN (f+z.size) r
theorem aJ5:∀(l:List Zn) (f:Int),1<=f/\f<=65->(vG f l=true↔uN f l)
 | [],_,_=>by simp [vG,uN]
 |z::r,f,m=>by
  simp only [vG,uN,zL];rw [aC0 m];constructor
  ·rintro ⟨j,h2⟩;have e:=(rJ m ((aC0 m).2 j)).2.2;have :=j.size;have :=j.stop;rw [e] at h2;exact⟨j,(aJ5 r _ (by omega)).1 h2⟩
  ·rintro ⟨j,h2⟩;have e:=(rJ m ((aC0 m).2 j)).2.2;have :=j.size;have :=j.stop;rw [e];exact⟨j,(aJ5 r _ (by omega)).2 h2⟩
theorem eT(l:List Zn):aX l=true↔uN 1 l/\l≠ []:=by rw [aX,zL,aJ5 l 1 (by decide)];refine and_congr Iff.rfl ?_;cases l <;> simp
theorem uN.len:∀ {l:List Zn} {f:Int},uN f l->f<=65->f+l.length<=65
 | [],f,_,h=>by simpa using h
 |z::r,f,h,_=>by have :=h.1.size;have :=h.1.stop;have :=uN.len h.2 (by omega);simp only [zY];omega
theorem uN.get:∀ {l:List Zn} {f:Int},uN f l->∀(i:Nat) (h:i<l.length),RZ l[i].first l[i]/\f<=l[i].first
 |z::r,f,h,0,_=>by simp only [zQ];rw [h.1.first];exact⟨h.1,Int.le_refl _⟩
 |z::r,f,h,i+1,hi=>by have e:=uN.get h.2 i (by simpa using hi);have j:=h.1.size;simp only [zR];exact⟨e.1,by omega⟩
theorem uN.set:∀ {l:List Zn} {f:Int},uN f l->∀(i:Nat) (h:i<l.length) (z:Zn),RZ l[i].first z->z.size=l[i].size->uN f (l.set i z)
 |y::r,f,h,0,_,z,e,j=>by simp only [zQ] at e j;rw [h.1.first] at e;simp only [List.set_cons_zero,uN];rw [j];exact⟨e,h.2⟩
 |y::r,f,h,i+1,hi,z,e,j=>by simp only [zR] at e j;simp only [List.set_cons_succ,uN];exact⟨h.1,uN.set h.2 i (by simpa using hi) z e j⟩
theorem jR {l:List Zn} (h:aX l=true):fO l:=by have e:=(eT l).1 h;refine⟨by have :=e.1.len (by decide);omega,λz j=>?_⟩;obtain⟨i,f,rfl⟩:=zA j;obtain⟨g,-⟩:=e.1.get i f;have :=g.free.len (by have :=g.size;omega);have :=g.size;omega
theorem aHK {l:List Zn} (h:aX l=true):1<=l.length/\l.length<=64:=by have e:=(eT l).1 h;have :=e.1.len (by decide);have :=List.length_pos_iff.2 e.2;omega
theorem RZ.ex {f:Int} {z:Zn} :RZ f (iX z)↔RZ f z:=⟨λh=>⟨h.1,h.2,h.3,h.4,h.5⟩,λh=>⟨h.1,h.2,h.3,h.4,h.5⟩⟩
theorem uN.ex:∀ {l:List Zn} {f:Int},uN f (l.map iX)↔uN f l
 | [],_=>Iff.rfl
 |z::r,f=>and_congr RZ.ex (uN.ex (l:=r))
theorem aLB(l:List Zn):aX (l.map iX)=aX l:=by rw [Bool.eq_iff_iff,eT,eT,uN.ex];simp
def iS(a b:List Zn):Prop:=a.map iX=b.map iX
theorem iS.refl(a:List Zn):iS a a:=rfl
theorem iS.ex(a:List Zn):iS (a.map iX) a:=by rw [iS,List.map_map];rfl
theorem iS.trans {a b c:List Zn} (h:iS a b)(k:iS b c):iS a c:=Eq.trans h k
theorem iS.len {a b:List Zn} (h:iS a b):a.length=b.length:=by have :=congrArg List.length h;simpa using this
theorem iS.check {a b:List Zn} (h:iS a b):aX a=aX b:=by rw [<-aLB a,<-aLB b,show a.map iX=b.map iX from h]
theorem iS.get {a b:List Zn} (h:iS a b)(i:Nat)(hi:i<a.length):iX a[i]=iX (b[i]'(by rw [<-h.len];exact hi)):=by
 have e:(a.map iX)[i]? =(b.map iX)[i]? :=by rw [show a.map iX=b.map iX from h]
 have f:i<b.length:=by rw [<-h.len];exact hi
 rw [zX,zX,zP hi,zP f] at e;simpa using e
theorem iS.set {a b:List Zn} (h:iS a b)(i:Nat) {x y:Zn} (e:iX x=iX y):iS (a.set i x) (b.set i y):=by rw [iS,List.map_set,List.map_set,e,show a.map iX=b.map iX from h]
theorem bG7(x y:Zn):eqZ x y=true↔iX x=iX y:=by rw [bAP];obtain⟨e,f,j,m,z,B,C⟩:=x;obtain⟨D,E,F,G,H,J,K⟩:=y;simp [iX]
theorem aUI {a b:List Zn} (h:iS a b):oN a b=true:=by rw [aIO];exact⟨h.len,λi e h2=>(bG7 _ _).2 (h.get i e)⟩
theorem aD3 {l:List Zn} {u:Bool} :∀ {n i:Nat},fE l u n=some i->i<n/\sS u (l.getD i gN)=true/\∀j,i<j->j<n->sS u (l.getD j gN)=false
 |0,i,h=>by cases h
 |n+1,i,h=>by
  simp only [fE] at h
  cases f:sS u (l.getD n gN) with
  |true=> rw [f] at h;obtain rfl:n=i:=zsi h;exact⟨by omega,f,λj m h2=>by omega⟩
  |false=>
   rw [f] at h;obtain⟨m,h2,z⟩:=aD3 (n:=n) h;refine⟨by omega,h2,λj B C=>?_⟩
   by_cases e:j=n
   ·rw [e];exact f
   ·exact z j B (by omega)
theorem aD2 {l:List Zn} {u:Bool} :∀ {n:Nat},fE l u n=none->∀j,j<n->sS u (l.getD j gN)=false
 |0,_,j,m=>by omega
 |n+1,h,j,m=>by
  simp only [fE] at h
  cases f:sS u (l.getD n gN) with
  |true=>rw [f] at h;cases h
  |false=>
   rw [f] at h
   by_cases e:j=n
   ·rw [e];exact f
   ·exact aD2 (n:=n) h j (by omega)
theorem RZ.taken {f:Int} {z:Zn} (h:RZ f z):RZ f (aGU z):=⟨h.first,h.size,h.stop,h.marks,h.free.drop 1⟩
theorem RZ.gave {f:Int} {z:Zn} (h:RZ f z) {x:Int} (j:f<=x/\x<f+z.size)(e:x∉z.free):RZ f (aW7 z x):=⟨h.first,h.size,h.stop,h.marks,h.free.ins j e⟩
inductive aPZ(base l:List Zn)(p:Int)(u:Bool):List Zn×Int×Int->Prop
 |range (h:p<0\/(l.length:Int)<=p):aPZ base l p u (base,0,2)
 |full (h0:0<=p) (h1:p<l.length) (h:∀j:Nat,(j:Int)<=p->sS u (l.getD j gN)=false):aPZ base l p u (base,0,3)
 |ok (h0:0<=p) (h1:p<l.length) (i:Nat) (hi:i<l.length) (hp:(i:Int)<=p) (hz:sS u l[i]=true) (hn:∀j:Nat,i<j->(j:Int)<=p->sS u (l.getD j gN)=false):
  aPZ base l p u (base.set i (aGU l[i]),l[i].free.getD 0 0,0)
theorem aS5 {base l:List Zn} {p:Int} {u:Bool} (h:aX l=true):aPZ base l p u (cV base l p u):=by
 rw [cV,h,zU,zcf]
 by_cases f:p<0\/(l.length:Int)<=p
 ·rw [show(decide (p<0)||decide ((l.length:Int)<=p))=true by simpa using f,zct]
  exact .range f
 ·rw [show(decide (p<0)||decide ((l.length:Int)<=p))=false by simpa using f,zcf]
  cases m:fE l u (p+1).toNat with
  |none=>exact .full (by omega) (by omega) λj C=>aD2 m j (by omega)
  |some i=>
   obtain⟨B,h2,z⟩:=aD3 m;have e:i<l.length:=by omega
   rw [aDG l i e] at h2;simp only [aDG l i e];exact .ok (by omega) (by omega) i e (by omega) h2 λj h4 h5=>z j h4 (by omega)
theorem iS.set_check {base l:List Zn} (m:iS base l)(h:aX l=true)(i:Nat)(hi:i<l.length) {z:Zn} (B:RZ l[i].first z)(f:z.size=l[i].size):aX (base.set i z)=true:=by rw [(m.set i (x:=z) (y:=z) rfl).check,eT];have j:=(eT l).1 h;exact⟨j.1.set i hi z B f,by have :=aHK h;intro e;have :=congrArg List.length e;simp at this;exact j.2 this⟩
theorem aD4 {base l:List Zn} {p:Int} {u:Bool} (f:iS base l)(h:aX l=true):aX (cV base l p u).1=true:=by
 have m:=(eT l).1 h;have e:=aS5 (base:=base) (p:=p) (u:=u) h;generalize cV base l p u=q at e
 cases e with
 |range _=>rw [f.check];exact h
 |full _ _ _=>rw [f.check];exact h
 |ok _ _ i j _ _ _=>exact f.set_check h i j (m.1.get i j).1.taken rfl
theorem aUM {base l:List Zn} {p:Int} {u:Bool} :(cV base l p u).1.length=base.length:=by
 rw [cV]
 repeat(first | (cases(aX l)<;> simp only [zU,Bool.not_false,zct,zcf])| (cases(decide (p<0)||decide ((l.length:Int)<=p))<;> simp only [zct,zcf])|rfl)
 cases fE l u (p+1).toNat <;> simp
inductive aPV(base l:List Zn)(f:Int):List Zn×Int->Prop
 |range (h:∀z∈l,¬(z.first<=f/\f<z.first+z.size)):aPV base l f (base,2)
 |free (i:Nat) (hi:i<l.length) (hf:l[i].first<=f/\f<l[i].first+l[i].size) (hm:f∈l[i].free):aPV base l f (base,5)
 |ok (i:Nat) (hi:i<l.length) (hf:l[i].first<=f/\f<l[i].first+l[i].size) (hm:f∉l[i].free):aPV base l f (base.set i (aW7 l[i] f),0)
theorem bAY {z:Zn} {f g:Int} (h:RZ g z)(hg:1<=g):inG f z=true↔z.first<=f/\f<z.first+z.size:=by
 have j:=h.first;have h2:=h.stop;have m:=h.size;rw [inG,kL,aO (by omega) (by omega)]
 by_cases e:z.first<=f
 ·simp [e]
 ·simp [e]
theorem aDU {base l:List Zn} {f:Int} (h:aX l=true):aPV base l f (eN base l f):=by
 have G:=(eT l).1 h;have m:∀i (j:i<l.length),inG f l[i]=true↔l[i].first<=f/\f<l[i].first+l[i].size:=λi j=>by obtain⟨B,E⟩:=G.1.get i j;exact bAY B E
 rw [eN,h,zU,zcf]
 by_cases D:dZ (inG f) l<0
 ·rw [show decide (dZ (inG f) l<0)=true by simpa using D,zct];refine .range λz H=>?_;obtain⟨i,j,rfl⟩:=zA H;rw [<-m i j,(sV _ _).1 D _ (zH j)];simp
 ·rw [show decide (dZ (inG f) l<0)=false by simpa using D,zcf];obtain⟨i,j,e,F,-⟩:=pS (inG f) l (by omega);rw [e,zK,aDG l i j];obtain⟨B,E⟩:=G.1.get i j
  cases C:aBK l[i].free f with
  |true=>exact .free i j ((m i j).1 F) ((aJG B.free.asc f).1 C)
  |false=> refine .ok i j ((m i j).1 F) λJ=>?_;rw [(aJG B.free.asc f).2 J] at C;cases C
theorem aM0 {base l:List Zn} {f:Int} (j:iS base l)(h:aX l=true):aX (eN base l f).1=true:=by
 have z:=(eT l).1 h;have e:=aDU (base:=base) (f:=f) h;generalize eN base l f=q at e
 cases e with
 |range _=>rw [j.check];exact h
 |free _ _ _ _=>rw [j.check];exact h
 |ok i m B C=>exact j.set_check h i m ((z.1.get i m).1.gave B C) rfl
theorem bCD(a b:Int):kS a b (nJ a b):=by refine⟨?_,λx e=>(aMF a b x).1 e⟩;rw [nJ,List.pairwise_map];refine List.Pairwise.imp (λh=>?_) List.pairwise_lt_range;omega
theorem aJ8 {n k:Int} (f:0<=n)(j:n<=64)(m:1<=k):sL n k=n/k/\0<=sL n k/\sL n k<=n:=by have e:n.tdiv k=n/k:=Int.tdiv_eq_ediv_of_nonneg f;have a:=Int.ediv_nonneg f (show 0<=k by omega);have b:=Int.ediv_le_self k f;rw [sL,e,aO (by omega) (by omega)];omega
theorem aTO {f n:Int} (D:1<=f/\f<=65)(h:aDD f n=false):RZ f (mkZ f n):=by obtain⟨B,e,C,E⟩:=tV D h;have z:=aJ8 (n:=n) (k:=8) (by omega) e (by decide);have m:=aJ8 (n:=n) (k:=4) (by omega) e (by decide);have j:=aJ8 (n:=n) (k:=2) (by omega) e (by decide);exact⟨rfl,⟨B,e⟩,C,⟨z.2.1,by show sL n 8<=sL n 4;rw [z.1,m.1];omega,by show sL n 4<=sL n 2;rw [m.1,j.1];omega,j.2.2⟩,bCD _ _⟩
theorem aR1:∀(s:List Int) (f:Int) (l:List Zn),1<=f/\f<=65->newR f s=some l->uN f l/\l.length=s.length
 | [],f,l,_,h=>by obtain rfl: []=l:=zsi h;exact⟨trivial,rfl⟩
 |n::r,f,l,j,h=>by
  rw [newR] at h
  cases e:aDD f n with
  |true=>rw [e] at h;cases h
  |false=> rw [e,zcf,Option.map_eq_some_iff] at h;obtain⟨l',m,rfl⟩:=h;have a:=tV j e;obtain⟨h2,z⟩:=aR1 r (f+n) l' (by omega) m;exact⟨⟨aTO j e,h2⟩,by simp [z]⟩
theorem bBB {s:List Int} (h:(newF s).2=0):aX (newF s).1=true/\(newF s).1.length=s.length/\newR 1 s=some (newF s).1:=by
 rw [newF] at h⊢
 cases e:((s.length:Int)==0) with
 |true=>rw [e] at h;cases h
 |false=>
  rw [e] at h
  cases f:newR 1 s with
  |none=>rw [f] at h;cases h
  |some l=> obtain⟨j,h2⟩:=aR1 s 1 l (by decide) f;refine⟨(eT l).2 ⟨j,?_⟩,h2,rfl⟩;rintro rfl;simp only [List.length_nil] at h2;simp [<-h2] at e
end Go.Proofs.YtmhapcbjjpadnaaGreat
