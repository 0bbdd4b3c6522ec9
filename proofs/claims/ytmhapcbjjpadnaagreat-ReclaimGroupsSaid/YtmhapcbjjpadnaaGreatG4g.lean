/- Caches. -/
import Derived.Test.YtmhapcbjjpadnaaGreatG3g
set_option linter.all false
set_option maxHeartbeats 16000000
set_option maxRecDepth 40000
open Bool renaming not_eq_true'→zC,cond_false_right→zD,cond_true_left→zE,not_eq_false'→zF,or_eq_false_iff→zI,not_not→zJ,and_eq_true→zL,not_true→zU
open Int renaming toNat_natCast→zK,natCast_nonneg→zN
open List renaming getElem_of_mem→zA,take_succ_eq_append_getElem→zG,getElem_mem→zH,drop_append_of_le_length→zM,length_append→zO,getElem?_eq_getElem→zP,getElem_cons_zero→zQ,getElem_cons_succ→zR,mem_of_mem_drop→zS,takeWhile_cons→zT,drop_sublist→zV,getElem_drop→zW,getElem?_map→zX,length_cons→zY,length_drop→zZ
namespace Go.Proofs.YtmhapcbjjpadnaaGreat
open Go Go.Sk Go.RowKit
theorem aKB:∀(l:List Int) (x:Int) (j:Nat),j<fG l x->l.getD j 0<x
 | [],_,j,h=>by simp [fG] at h
 |y::r,x,j,h=>by
  simp only [fG,zT] at h;split at h
  ·rename_i e
   cases j with
   |zero=>simpa using e
   |succ j=>simpa using aKB r x j (by simpa [fG] using h)
  ·simp at h
theorem aKA:∀(l:List Int) (x:Int),fG l x<l.length->x<=l.getD (fG l x) 0
 | [],_,h=>by simp [fG] at h
 |y::r,x,h=>by
  simp only [fG,zT] at h⊢;split
  ·rename_i e;rw [if_pos e] at h;simpa [fG] using aKA r x (by simpa [fG] using h)
  ·rename_i e;simpa using e
theorem lM {l:List Int} (m:l.Pairwise (·< ·))(i j:Nat)(e:i<j)(f:j<l.length):l.getD i 0<l.getD j 0:=by rw [<-fM l i (by omega),<-fM l j f];exact List.pairwise_iff_getElem.1 m i j (by omega) f e
theorem aY2 {l:List Int} (B:l.Pairwise (·< ·)) {x:Int} {k:Nat} (z:k<l.length)(h:l.getD k 0=x):aCH l x=true:=by
 have :fG l x=k:=aPK l x k (by omega) (λj m=>by rw [<-h];exact lM B j k m z) (λj m f=>by
  by_cases e:j=k
  ·rw [e,h];exact Int.le_refl _
  ·have :=lM B k j (by omega) f;omega)
 rw [aCH,this,h,show decide (k<l.length)=true by simpa using z];simp
theorem bIL {l:List Int} {x:Int} (h:∀k,k<l.length->l.getD k 0≠x):aCH l x=false:=by
 rw [aCH]
 by_cases e:fG l x<l.length
 ·rw [show decide (fG l x<l.length)=true by simpa using e];simpa using h _ e
 ·rw [show decide (fG l x<l.length)=false by simpa using e];rfl
def pW(l:List Int)(f:Int)(k:Nat):List Int:=if k<=fG l f then l.take k else iI (l.take k) (fG l f) f
theorem aMA(l:List Int)(f:Int)(k:Nat)(e:k<=l.length):(pW l f k).length<=k+1:=by
 unfold pW;split
 ·simp;omega
 ·rw [mB];simp;omega
theorem aMB {l:List Int} {f:Int} (h:fG l f<l.length):pW l f (fG l f)++ [f]++ [l.getD (fG l f) 0]=pW l f (fG l f+1):=by
 rw [pW,if_pos (Nat.le_refl _),pW,if_neg (by omega),iI,<-fM l _ h,List.take_take,Nat.min_eq_left (by omega),List.append_assoc]
 congr 1
 rw [zG h,zM (by simp;omega),List.drop_of_length_le (by simp;omega)];rfl
theorem aIG {l:List Int} {f:Int} {k:Nat} (j:k<l.length)(h:k≠fG l f):pW l f k++ [l.getD k 0]=pW l f (k+1):=by
 rw [<-fM l k j];unfold pW
 by_cases e:k<=fG l f
 ·rw [if_pos e,if_pos (by omega),zG j]
 ·rw [if_neg e,if_neg (by omega),iI,iI,zG j,List.take_append_of_le_length (by simp;omega),zM (by simp;omega)];simp
theorem aM9(l:List Int)(f:Int):(if fG l f<l.length then pW l f l.length else pW l f l.length++ [f])=iI l (fG l f) f:=by
 have :=aA1 l f;unfold pW;split
 ·rw [if_neg (by omega),List.take_length]
 ·have e:fG l f=l.length:=by omega
  rw [if_pos (by omega),e,iI];simp
theorem cX(L:List Int)(k:Nat)(h:k<L.length):(aB L).getD ((k:Int)).toNat []=[.int .i64 (L.getD k 0)]:=by rw [zK,bQ L k h,fM L k h]
theorem bOC(l:List Zn)(t:Bool)(f:Int)(hl:fF l):aM Tryz.prog 251 [] [.lst 6 t (aJ l),.int .i64 f] (.tup [.lst 6 false (aJ (eT l l f).1),.int .i64 (eT l l f).2]) []:=by
 have hlen:=hl.len;refine eY (ob0:= []) [.c 63,.c 77,.r 82] Tryz.func251 rfl rfl rfl rfl ?_;generalize hk:eT l l f=q;refine cL (aZE l t hl) ?_;refine aC (λh1=>?_) (λh1=>?_)<;> try simp only [zE,zD,zC,zF,zJ] at h1
 ·have h1:(!aZ l)=true:=by rw [h1];rfl
  simp only [eT,h1,zct] at hk;subst hk;refine Wk ?_
  try subst hk
  exact Lf
 have h1':aZ l=true:=by simpa using h1
 have h1:(!aZ l)=false:=by rw [h1'];rfl
 have hg:=rG h1';simp only [eT,h1,zcf] at hk;refine Wk ?_;refine⟨Nat,λi=>i<=l.length/\∀j (hj:j<l.length),j<i->inG f l[j]=false,λi=>⟨[(0,⟨[],true,.lst 6 t (aJ l)⟩),(1,⟨[],true,.int .i64 f⟩),(6,⟨[],true,.int .i64 (i:Int)⟩)],[],0⟩,λi=>l.length-i,⟨0,⟨by omega,λj hj h=>by omega⟩,?_⟩,λi hI=>?_⟩
 ·exact Vw []
 obtain⟨hI1,hI2⟩:=hI;refine Wk ?_;rw [aF];refine aC (λh3=>?_) (λh3=>?_)<;> try simp only [zE,zD,zC,zF,zJ] at h3
 ·have h3:i<l.length:=by simp at h3;omega
  have hgn:=hg l[i] (zH h3);have hfn:=hl.free l[i] (zH h3);have hpw:=aC2 _ _ _ hgn.asc;refine Wk ?_;refine aI (⟨rfl,by omega,by rw [aF];omega⟩) ?_;rw [zK,eV l i h3];refine Wk ?_;refine aC (λh4=>?_) (λh4=>?_)<;> try simp only [zE,zD,zC,zF,zJ] at h4
  ·have h4:inG f l[i]=false:=by have e:=hgn.stop;have e1:=hgn.first;have e2:=hgn.size;rw [inG,kT];rw [aN (by omega) (by omega)] at h4⊢;simp at h4⊢;omega
   refine Wk ?_;rw [aN (n:=(i:Int)+1) (by omega) (by omega),show((i:Int)+1)=((i+1:Nat):Int) by omega];refine⟨i+1,⟨by show i+1<=_;omega,λj hj hj'=>?_⟩,?_,by show l.length- (i+1)<l.length-i;omega⟩
   ·have hj':j<i+1:=hj'
    by_cases e:j=i
    ·subst e;exact h4
    ·exact hI2 j hj (by omega)
   exact Vw []
  have h4:inG f l[i]=true:=by have e:=hgn.stop;have e1:=hgn.first;have e2:=hgn.size;rw [inG,kT];rw [aN (by omega) (by omega)] at h4⊢;simp at h4⊢;omega
  have hix:eD (inG f) l=i:=rR _ _ i h3 (λj hj=>hI2 j (by omega) hj) h4;rw [hix] at hk;rw [show decide (((i:Nat):Int)<0)=false by simp,zcf,zK,aEJ l i h3] at hk;generalize hz:l[i]=z at hgn hfn hpw h4 hk;have hpl:=aA1 z.free f;refine Wk ?_
  refine⟨Nat×List Int,λy=>(y.1<=z.free.length/\∀j,j<y.1->z.free.getD j 0≠f)/\y.2=pW z.free f y.1,λy=>⟨[(0,⟨[],true,.lst 6 t (aJ l)⟩),(1,⟨[],true,.int .i64 f⟩),(6,⟨[],true,.int .i64 (i:Int)⟩),(7,⟨[],true,.ptr 0 0 0⟩),(8,⟨[],true,.sl 1 0 y.2.length⟩),(9,⟨[],true,.bool (decide (fG z.free f<y.1))⟩),(10,⟨[],true,.int .i64 (y.1:Int)⟩)],
   [(0,.box [.int .i64 z.first,.int .i64 z.size,.int .i64 z.min,.int .i64 z.low,.int .i64 z.high,.lst 1 z.ex (aB z.free)]),(1,.row 1 (aB y.2))],2⟩,λy=>z.free.length-y.1,⟨(0,[]),⟨⟨by simp,λj hj=>by simp at hj⟩,by show []=pW z.free f 0;rw [pW,if_pos (by omega),List.take_zero]⟩,?_⟩,λy hk'=>?_⟩
  ·exact Vw [some 0,none]
  obtain⟨k,acc⟩:=y;obtain⟨⟨hk1,hk2⟩,hacc⟩:=hk';simp only at hk1 hk2 hacc;have hal:=aMA z.free f k hk1;refine Wk ?_;rw [aA];refine aC (λh5=>?_) (λh5=>?_)<;> try simp only [zE,zD,zC,zF,zJ] at h5
  ·have h5:k<z.free.length:=by simp at h5;omega
   refine Wk ?_;have hb:(k:Int)< ((aB z.free).length:Int):=by rw [aA];exact Int.ofNat_lt.2 h5
   refine aI (⟨rfl,zN k,hb⟩) ?_;rw [cX z.free k h5];refine Wk ?_;refine aC (λh6=>?_) (λh6=>?_)<;> try simp only [zE,zD,zC,zF,zJ] at h6
   ·have h6:z.free.getD k 0=f:=by simpa using h6
    rw [aY2 hpw h5 h6,zct] at hk;subst hk;refine Wk ?_
    try subst hk
    exact Lf
   have h6:z.free.getD k 0≠f:=by simpa using h6
   refine Wk ?_;generalize hm:(bif decide (fG z.free f=k) then acc++ [f] else acc)=mid
   refine⟨Unit,λ_=>True,λ_=>⟨[(0,⟨[],true,.lst 6 t (aJ l)⟩),(1,⟨[],true,.int .i64 f⟩),(6,⟨[],true,.int .i64 (i:Int)⟩),(7,⟨[],true,.ptr 0 0 0⟩),(8,⟨[],true,.sl 1 0 mid.length⟩),(9,⟨[],true,.bool (decide (fG z.free f<k+1))⟩),(10,⟨[],true,.int .i64 (k:Int)⟩)],
    [(0,.box [.int .i64 z.first,.int .i64 z.size,.int .i64 z.min,.int .i64 z.low,.int .i64 z.high,.lst 1 z.ex (aB z.free)]),(1,.row 1 (aB mid))],2⟩,?_,λ_ _=>?_⟩
   ·refine Wk ?_;refine jS (λ_=>⟨rfl,zN k,hb⟩) ?_;rw [cX z.free k h5];refine Wk ?_;refine aC (λh7=>?_) (λh7=>?_)<;> try simp only [zE,zD,zC,zF,zJ] at h7
    ·have h7:(!decide (fG z.free f<k)&&decide (f<z.free.getD k 0))=true:=by simpa using h7
     have e7:fG z.free f=k:=by simp only [zL,zC,zdn,decide_eq_true_eq] at h7;have :=λh=>aKB z.free f k h;omega
     have hm:acc++ [f]=mid:=by rw [<-hm,show decide (fG z.free f=k)=true by simpa using e7];rfl
     subst hm;refine Wk ?_;refine aI ((aA acc).symm) (cE (by show(((aB acc).length+1:Nat):Int)<=_;rw [aA,hacc];omega) (by show((aB acc).length+1)*8<=_;rw [aA,hacc];omega) ?_);refine Wk ?_;refine⟨(),trivial,?_⟩;refine bV [some 0,some ?k172_1] rfl rfl ?h3_172 ?h4_172 ?h5_172 ?h6_172 ?h7_172
     case' h7_172=>repeat' (first |exact trivial |rfl |exact .inl rfl |exact .inr rfl |exact id |exact zbc |apply And.intro)
     case' h4_172=>rfl
     case' h6_172=>rfl
     case' h3_172=>repeat' (first |exact trivial |rfl |exact .inl rfl |exact .inr rfl |exact id |exact zbc |apply And.intro)
     case' h5_172=>repeat' (first |exact trivial |rfl |exact .inl rfl |exact .inr rfl |exact id |exact zbc |apply And.intro)
     ·exact fV acc f
     ·show(aB acc).length+1=_;rw [aA,zO];rfl
     ·show true=decide (fG z.free f<k+1);simp;omega
    have h7:(!decide (fG z.free f<k)&&decide (f<z.free.getD k 0))=false:=by simpa using h7
    have e7:fG z.free f≠k:=by intro e;have :=aKA z.free f (by omega);rw [e] at this;rw [e,show decide (k<k)=false by simp,Bool.not_false,Bool.true_and,zdn] at h7;omega
    have hm:acc=mid:=by rw [<-hm,show decide (fG z.free f=k)=false by simpa using e7];rfl
    subst hm;refine Wk ?_;refine⟨(),trivial,?_⟩;refine bV [some 0,some 1] rfl rfl ?_ rfl ?_ rfl ?_
    repeat' (first |exact trivial |rfl |exact .inl rfl |exact .inr rfl |exact id |exact zbc |apply And.intro)
    exact decide_eq_decide.2 (by show fG z.free f<k↔fG z.free f<k+1;omega)
   refine Wk ?_
   have hml:mid.length<=k+2:=by
    rw [<-hm]
    cases decide (fG z.free f=k) with
    |true=>show(acc++ [f]).length<=_;rw [hacc];have :=hal;simp;omega
    |false=>show acc.length<=_;rw [hacc];omega
   refine aI (⟨rfl,zN k,hb⟩) ?_;rw [cX z.free k h5];refine Wk ?_;refine aI ((aA mid).symm) (cE (by show(((aB mid).length+1:Nat):Int)<=_;rw [aA];omega) (by show((aB mid).length+1)*8<=_;rw [aA];omega) ?_);refine Wk ?_;rw [aN (n:=(k:Int)+1) (by omega) (by omega),show((k:Int)+1)=((k+1:Nat):Int) by omega]
   have hnext:mid++ [z.free.getD k 0]=pW z.free f (k+1):=by
    by_cases e:fG z.free f=k
    ·rw [<-hm,show decide (fG z.free f=k)=true by simpa using e,zct,hacc,<-e];exact aMB (by omega)
    ·rw [<-hm,show decide (fG z.free f=k)=false by simpa using e,zcf,hacc];exact aIG h5 (λh=>e h.symm)
   refine⟨(k+1,mid++ [z.free.getD k 0]),⟨⟨by show k+1<=_;omega,λj hj=>?_⟩,hnext⟩,?_,by show z.free.length- (k+1)<z.free.length-k;omega⟩
   ·have hj:j<k+1:=hj
    by_cases e:j=k
    ·rw [e];exact h6
    ·exact hk2 j (by omega)
   refine bV [some 0,some ?k220_1] rfl rfl ?h3_220 ?h4_220 ?h5_220 ?h6_220 ?h7_220
   case' h7_220=>repeat' (first |exact trivial |rfl |exact .inl rfl |exact .inr rfl |exact id |exact zbc |apply And.intro)
   case' h4_220=>rfl
   case' h6_220=>rfl
   case' h3_220=>repeat' (first |exact trivial |rfl |exact .inl rfl |exact .inr rfl |exact id |exact zbc |apply And.intro)
   case' h5_220=>repeat' (first |exact trivial |rfl |exact .inl rfl |exact .inr rfl |exact id |exact zbc |apply And.intro)
   ·exact fV mid _
   ·show(aB mid).length+1=_;rw [aA,zO];rfl
  have h5:k=z.free.length:=by simp at h5;omega
  subst h5;rw [bIL hk2,zcf] at hk;refine Wk ?_;generalize hr:iI z.free (fG z.free f) f=res;have hrl:res.length=z.free.length+1:=by rw [<-hr,mB]
  have hend:=aM9 z.free f;rw [<-hacc,hr] at hend
  refine⟨Unit,λ_=>True,λ_=>⟨[(0,⟨[],true,.lst 6 t (aJ l)⟩),(6,⟨[],true,.int .i64 (i:Int)⟩),(7,⟨[],true,.ptr 0 0 0⟩),(8,⟨[],true,.sl 1 0 res.length⟩)],
   [(0,.box [.int .i64 z.first,.int .i64 z.size,.int .i64 z.min,.int .i64 z.low,.int .i64 z.high,.lst 1 z.ex (aB z.free)]),(1,.row 1 (aB res))],2⟩,?_,λ_ _=>?_⟩
  ·refine Wk ?_;refine aC (λh7=>?_) (λh7=>?_)<;> try simp only [zE,zD,zC,zF,zJ] at h7
   ·have h7:decide (fG z.free f<z.free.length)=false:=h7;have hend:acc++ [f]=res:=by rw [<-hend,if_neg (by simpa using h7)]
    subst hend;refine Wk ?_;refine aI ((aA acc).symm) (cE (by show(((aB acc).length+1:Nat):Int)<=_;rw [aA];simp at hrl;omega) (by show((aB acc).length+1)*8<=_;rw [aA];simp at hrl;omega) ?_);refine Wk ?_;refine⟨(),trivial,?_⟩;refine bV [some 0,some ?k248_1] rfl rfl ?h3_248 ?h4_248 ?h5_248 ?h6_248 ?h7_248
    case' h7_248=>repeat' (first |exact trivial |rfl |exact .inl rfl |exact .inr rfl |exact id |exact zbc |apply And.intro)
    case' h4_248=>rfl
    case' h6_248=>rfl
    case' h3_248=>repeat' (first |exact trivial |rfl |exact .inl rfl |exact .inr rfl |exact id |exact zbc |apply And.intro)
    case' h5_248=>repeat' (first |exact trivial |rfl |exact .inl rfl |exact .inr rfl |exact id |exact zbc |apply And.intro)
    ·exact fV acc f
    ·show(aB acc).length+1=_;rw [aA,zO];rfl
   have h7:decide (fG z.free f<z.free.length)=true:=h7;have hend:acc=res:=by rw [<-hend,if_pos (by simpa using h7)]
   subst hend;refine Wk ?_;refine⟨(),trivial,?_⟩;exact Vw [some 0,some 1]
  refine Wk ?_;refine⟨Unit,λ_=>True,λ_=>⟨[(0,⟨[],true,.lst 6 t (aJ l)⟩),(6,⟨[],true,.int .i64 (i:Int)⟩),(7,⟨[],true,.ptr 0 0 0⟩)],[(0,.box (Zn.c ⟨z.first,z.size,z.min,z.low,z.high,res,false⟩))],1⟩,?_,λ_ _=>?_⟩
  ·refine Wk ?_;refine⟨(),trivial,?_⟩;refine bV [some 0] rfl rfl ?_ rfl ?_ rfl ?_
   repeat' (first |exact trivial |rfl |exact .inl rfl |exact .inr rfl |exact id |exact zbc |apply And.intro)
   ·show 0+res.length<=_;rw [aA];omega
   ·exact dL (aA _)
  refine cL (bGF l t i ⟨z.first,z.size,z.min,z.low,z.high,res,false⟩ h3 hlen) ?_;subst hk;refine⟨[],trivial,rfl,trivial,rfl,?_⟩
  try subst hk
  repeat' (first |exact trivial |rfl |exact .inl rfl |exact .inr rfl |exact id |exact zbc |apply And.intro)
  rw [<-hr];rfl
 have h3:i=l.length:=by simp at h3;omega
 subst h3;have hnone:eD (inG f) l= -1:=lI _ _ λz hz=>by obtain⟨j,hj,rfl⟩:=zA hz;exact hI2 j hj hj
 rw [hnone] at hk;have hk:(l,(2:Int))=q:=hk;subst hk;refine Wk ?_
 try subst hk
 exact Lf
structure lF(lo hi:Int)(l:List Int):Prop where
 asc:l.Pairwise (·< ·)
 inn:∀x∈l,lo<=x/\x<hi
theorem aME(lo hi:Int)(l:List Int):vM lo hi l l.length=true↔lF lo hi l:=by
 constructor
 ·intro h;refine⟨aC2 lo hi l h,λx B=>?_⟩;obtain⟨i,j,rfl⟩:=zA B;have :=uO lo hi l l.length i j h;simp only [lU,zI,zdn] at this;rw [fM l i j];omega
 ·intro h
  have :∀n,n<=l.length->vM lo hi l n=true:=by
   intro n
   induction n with
   |zero=>intro _;rfl
   |succ n C=>
    intro D;have f:n<l.length:=by omega
    simp only [vM,zL,zC,C (by omega),true_and];have m:=h.inn l[n] (zH f);rw [fM l n f] at m
    have z:(decide (0< (n:Int))&&decide (l.getD n 0<=l.getD (n-1) 0))=false:=by
     by_cases e:n=0
     ·simp [e]
     ·have :=lM h.asc (n-1) n (by omega) f;rw [show decide (l.getD n 0<=l.getD (n-1) 0)=false from by simp only [zdn];omega,Bool.and_false]
    simp only [lU,zI,zdn,z,and_true];omega
  exact this _ (Nat.le_refl _)
theorem lF.len:∀ {l:List Int} {lo hi:Int},lF lo hi l->lo<=hi->(l.length:Int)<=hi-lo
 | [],_,_,_,h=>by simp;omega
 |x::r,lo,hi,h,_=>by have j:=h.inn x (by simp);have e:=List.pairwise_cons.1 h.asc;have :=lF.len (l:=r) (lo:=x+1) (hi:=hi) ⟨e.2,λy f=>⟨by have :=e.1 y f;omega,(h.inn y (by simp [f])).2⟩⟩ (by omega);simp only [zY];omega
theorem lF.drop {lo hi:Int} {l:List Int} (h:lF lo hi l)(n:Nat):lF lo hi (l.drop n):= ⟨h.asc.sublist (zV n l),λx e=>h.inn x (zS e)⟩
theorem aGW {l:List Int} {i:Nat} {x y:Int} :y∈iI l i x↔y=x\/y∈l:=by
 rw [iI,List.mem_append,List.mem_cons];constructor
 ·rintro (h |h |h)
  ·exact .inr (List.mem_of_mem_take h)
  ·exact .inl h
  ·exact .inr (zS h)
 ·rintro (h |h)
  ·exact .inr (.inl h)
  ·rw [<-List.take_append_drop i l,List.mem_append] at h;rcases h with h |h
   ·exact .inl h
   ·exact .inr (.inr h)
theorem aKS {l:List Int} (j:l.Pairwise (·< ·))(x:Int):aCH l x=true↔x∈l:=by
 constructor
 ·intro h;rw [aCH] at h
  by_cases e:fG l x<l.length
  ·rw [show decide (fG l x<l.length)=true by simpa using e,zct] at h;have :l.getD (fG l x) 0=x:=by simpa using h
   rw [<-this,<-fM l _ e];exact zH e
  ·rw [show decide (fG l x<l.length)=false by simpa using e] at h;cases h
 ·intro h;obtain⟨i,f,rfl⟩:=zA h;exact aY2 j f (fM l i f).symm
theorem lF.ins {lo hi:Int} {l:List Int} (h:lF lo hi l) {f:Int} (E:lo<=f/\f<hi)(H:f∉l):lF lo hi (iI l (fG l f) f):=by
 refine⟨?_,λx C=>?_⟩
 ·have G:=aA1 l f;rw [iI,List.pairwise_append];refine⟨h.asc.sublist (List.take_sublist _ l),List.pairwise_cons.2 ⟨λy J=>?_,h.asc.sublist (zV _ l)⟩,λa D b z=>?_⟩
  ·obtain⟨j,B,rfl⟩:=zA J;rw [zZ] at B;rw [zW,fM l _ (by omega)];have m:fG l f<l.length:=by omega
   have h1:=aKA l f m;have h2:l.getD (fG l f+j) 0≠f:=λe=>H (by rw [<-e,<-fM l _ (by omega)];exact zH _)
   by_cases e:j=0
   ·subst e;rw [Nat.add_zero] at h2⊢;omega
   ·have :=lM h.asc (fG l f) (fG l f+j) (by omega) (by omega);omega
  ·obtain⟨j,B,rfl⟩:=zA D;rw [List.length_take] at B;have m:l[j]'(by omega)<f:=by rw [fM l j (by omega)];exact aKB l f j (by omega)
   rw [List.getElem_take];rcases List.mem_cons.1 z with rfl |z
   ·exact m
   ·obtain⟨k,F,rfl⟩:=zA z;rw [zZ] at F;rw [zW,fM l j (by omega),fM l _ (by omega)];exact lM h.asc _ _ (by omega) (by omega)
 ·rcases aGW.1 C with rfl |C
  ·exact E
  ·exact h.inn x C
structure RZ(f:Int)(z:Zn):Prop where
 first :z.first=f
 size:1<=z.size/\z.size<=64
 stop:f+z.size<=65
 marks:0<=z.min/\z.min<=z.low/\z.low<=z.high/\z.high<=z.size
 free:lF f (f+z.size) z.free
theorem aD3 {z:Zn} {f:Int} (C:1<=f/\f<=65):jW z f=true↔RZ f z:=by
 constructor
 ·intro h;obtain⟨g,h1,h2⟩:=sE C h;have e:=g.stop;rw [h1] at e;refine⟨h1,g.size,e,g.marks,?_⟩;have :=(aME _ _ _).1 g.asc
  rwa [h1] at this
 ·intro h;have h1:=h.first;have h2:=h.size;have D:=h.stop;have h4:=h.marks;have B:kT z=f+z.size:=by rw [kT,aN (by omega) (by omega)];omega
  have j:jO z f=false:=by simp only [jO,zI,zdn,bne_eq_false_iff_eq];omega
  have m:kW z=false:=by simp only [kW,zI,zdn];omega
  rw [jW,j,m,zcf,zcf,B,h1];exact(aME _ _ _).2 h.free
def vK:Int->List Zn->Prop
 |_,[]=>True
 |f,z::r=>RZ f z/\vK (f+z.size) r
theorem aKF:∀(l:List Zn) (f:Int),1<=f/\f<=65->(aA4 f l=true↔vK f l)
 | [],_,_=>by simp [aA4,vK]
 |z::r,f,j=>by
  simp only [aA4,vK,zL];rw [aD3 j];constructor
  ·rintro ⟨h1,h2⟩;have e:=(sE j ((aD3 j).2 h1)).2.2;have :=h1.size;have :=h1.stop;rw [e] at h2;exact⟨h1,(aKF r _ (by omega)).1 h2⟩
  ·rintro ⟨h1,h2⟩;have e:=(sE j ((aD3 j).2 h1)).2.2;have :=h1.size;have :=h1.stop;rw [e];exact⟨h1,(aKF r _ (by omega)).2 h2⟩
theorem eU(l:List Zn):aZ l=true↔vK 1 l/\l≠ []:=by rw [aZ,zL,aKF l 1 (by decide)];refine and_congr Iff.rfl ?_;cases l <;> simp
theorem vK.len:∀ {l:List Zn} {f:Int},vK f l->f<=65->f+l.length<=65
 | [],f,_,h=>by simpa using h
 |z::r,f,h,_=>by have :=h.1.size;have :=h.1.stop;have :=vK.len h.2 (by omega);simp only [zY];omega
theorem vK.get:∀ {l:List Zn} {f:Int},vK f l->∀(i:Nat) (h:i<l.length),RZ l[i].first l[i]/\f<=l[i].first
 |z::r,f,h,0,_=>by simp only [zQ];rw [h.1.first];exact⟨h.1,Int.le_refl _⟩
 |z::r,f,h,i+1,hi=>by have e:=vK.get h.2 i (by simpa using hi);have j:=h.1.size;simp only [zR];exact⟨e.1,by omega⟩
theorem vK.set:∀ {l:List Zn} {f:Int},vK f l->∀(i:Nat) (h:i<l.length) (z:Zn),RZ l[i].first z->z.size=l[i].size->vK f (l.set i z)
 |y::r,f,h,0,_,z,e,j=>by simp only [zQ] at e j;rw [h.1.first] at e;simp only [List.set_cons_zero,vK];rw [j];exact⟨e,h.2⟩
 |y::r,f,h,i+1,hi,z,e,j=>by simp only [zR] at e j;simp only [List.set_cons_succ,vK];exact⟨h.1,vK.set h.2 i (by simpa using hi) z e j⟩
theorem jY {l:List Zn} (h:aZ l=true):fF l:=by have hc:=(eU l).1 h;refine⟨by have :=hc.1.len (by decide);omega,λz f=>?_⟩;obtain⟨i,e,rfl⟩:=zA f;obtain⟨g,-⟩:=hc.1.get i e;have :=g.free.len (by have :=g.size;omega);have :=g.size;omega
theorem aC5 {l:List Zn} (h:aZ l=true):1<=l.length/\l.length<=64:=by have hc:=(eU l).1 h;have :=hc.1.len (by decide);have :=List.length_pos_iff.2 hc.2;omega
theorem RZ.ex {f:Int} {z:Zn} :RZ f (jD z)↔RZ f z:=⟨λh=>⟨h.1,h.2,h.3,h.4,h.5⟩,λh=>⟨h.1,h.2,h.3,h.4,h.5⟩⟩
theorem vK.ex:∀ {l:List Zn} {f:Int},vK f (l.map jD)↔vK f l
 | [],_=>Iff.rfl
 |z::r,f=>and_congr RZ.ex (vK.ex (l:=r))
theorem aML(l:List Zn):aZ (l.map jD)=aZ l:=by rw [Bool.eq_iff_iff,eU,eU,vK.ex];simp
def iW(a b:List Zn):Prop:=a.map jD=b.map jD
theorem iW.refl(a:List Zn):iW a a:=rfl
theorem iW.ex(a:List Zn):iW (a.map jD) a:=by rw [iW,List.map_map];rfl
theorem iW.trans {a b c:List Zn} (h:iW a b)(k:iW b c):iW a c:=Eq.trans h k
theorem iW.len {a b:List Zn} (h:iW a b):a.length=b.length:=by have :=congrArg List.length h;simpa using this
theorem iW.check {a b:List Zn} (h:iW a b):aZ a=aZ b:=by rw [<-aML a,<-aML b,show a.map jD=b.map jD from h]
theorem iW.get {a b:List Zn} (h:iW a b)(i:Nat)(hi:i<a.length):jD a[i]=jD (b[i]'(by rw [<-h.len];exact hi)):=by
 have h1:(a.map jD)[i]? =(b.map jD)[i]? :=by rw [show a.map jD=b.map jD from h]
 have e:i<b.length:=by rw [<-h.len];exact hi
 rw [zX,zX,zP hi,zP e] at h1;simpa using h1
theorem iW.set {a b:List Zn} (h:iW a b)(i:Nat) {x y:Zn} (e:jD x=jD y):iW (a.set i x) (b.set i y):=by rw [iW,List.map_set,List.map_set,e,show a.map jD=b.map jD from h]
theorem bI5(x y:Zn):eqZ x y=true↔jD x=jD y:=by rw [bCL];obtain⟨e,f,j,m,z,B,C⟩:=x;obtain⟨D,E,F,G,H,J,K⟩:=y;simp [jD]
theorem aVZ {a b:List Zn} (h:iW a b):oU a b=true:=by rw [aJT];exact⟨h.len,λi h1 h2=>(bI5 _ _).2 (h.get i h1)⟩
theorem aE6 {l:List Zn} {u:Bool} :∀ {n i:Nat},fI l u n=some i->i<n/\tT u (l.getD i gU)=true/\∀j,i<j->j<n->tT u (l.getD j gU)=false
 |0,i,h=>by cases h
 |n+1,i,h=>by
  simp only [fI] at h
  cases f:tT u (l.getD n gU) with
  |true=> rw [f] at h;obtain rfl:n=i:=zsi h;exact⟨by omega,f,λj h1 h2=>by omega⟩
  |false=>
   rw [f] at h;obtain⟨h1,h2,m⟩:=aE6 (n:=n) h;refine⟨by omega,h2,λj z B=>?_⟩
   by_cases e:j=n
   ·rw [e];exact f
   ·exact m j z (by omega)
theorem aE5 {l:List Zn} {u:Bool} :∀ {n:Nat},fI l u n=none->∀j,j<n->tT u (l.getD j gU)=false
 |0,_,j,m=>by omega
 |n+1,h,j,m=>by
  simp only [fI] at h
  cases f:tT u (l.getD n gU) with
  |true=>rw [f] at h;cases h
  |false=>
   rw [f] at h
   by_cases e:j=n
   ·rw [e];exact f
   ·exact aE5 (n:=n) h j (by omega)
theorem RZ.taken {f:Int} {z:Zn} (h:RZ f z):RZ f (aHV z):=⟨h.first,h.size,h.stop,h.marks,h.free.drop 1⟩
theorem RZ.gave {f:Int} {z:Zn} (h:RZ f z) {x:Int} (j:f<=x/\x<f+z.size)(e:x∉z.free):RZ f (aXW z x):=⟨h.first,h.size,h.stop,h.marks,h.free.ins j e⟩
inductive aRG(base l:List Zn)(p:Int)(u:Bool):List Zn×Int×Int->Prop
 |range (h:p<0\/(l.length:Int)<=p):aRG base l p u (base,0,2)
 |full (h0:0<=p) (h1:p<l.length) (h:∀j:Nat,(j:Int)<=p->tT u (l.getD j gU)=false):aRG base l p u (base,0,3)
 |ok (h0:0<=p) (h1:p<l.length) (i:Nat) (hi:i<l.length) (hp:(i:Int)<=p) (hz:tT u l[i]=true) (hn:∀j:Nat,i<j->(j:Int)<=p->tT u (l.getD j gU)=false):
  aRG base l p u (base.set i (aHV l[i]),l[i].free.getD 0 0,0)
theorem aTN {base l:List Zn} {p:Int} {u:Bool} (h:aZ l=true):aRG base l p u (cS base l p u):=by
 rw [cS,h,zU,zcf]
 by_cases f:p<0\/(l.length:Int)<=p
 ·rw [show(decide (p<0)||decide ((l.length:Int)<=p))=true by simpa using f,zct]
  exact .range f
 ·rw [show(decide (p<0)||decide ((l.length:Int)<=p))=false by simpa using f,zcf]
  cases m:fI l u (p+1).toNat with
  |none=>exact .full (by omega) (by omega) λj B=>aE5 m j (by omega)
  |some i=>
   obtain⟨h1,h2,z⟩:=aE6 m;have e:i<l.length:=by omega
   rw [aEJ l i e] at h2;simp only [aEJ l i e];exact .ok (by omega) (by omega) i e (by omega) h2 λj h4 h5=>z j h4 (by omega)
theorem iW.set_check {base l:List Zn} (j:iW base l)(h:aZ l=true)(i:Nat)(hi:i<l.length) {z:Zn} (m:RZ l[i].first z)(f:z.size=l[i].size):aZ (base.set i z)=true:=by rw [(j.set i (x:=z) (y:=z) rfl).check,eU];have hc:=(eU l).1 h;exact⟨hc.1.set i hi z m f,by have :=aC5 h;intro e;have :=congrArg List.length e;simp at this;exact hc.2 this⟩
theorem aE7 {base l:List Zn} {p:Int} {u:Bool} (f:iW base l)(h:aZ l=true):aZ (cS base l p u).1=true:=by
 have hc:=(eU l).1 h;have e:=aTN (base:=base) (p:=p) (u:=u) h;generalize cS base l p u=q at e
 cases e with
 |range _=>rw [f.check];exact h
 |full _ _ _=>rw [f.check];exact h
 |ok _ _ i j _ _ _=>exact f.set_check h i j (hc.1.get i j).1.taken rfl
theorem aW3 {base l:List Zn} {p:Int} {u:Bool} :(cS base l p u).1.length=base.length:=by
 rw [cS]
 repeat(first | (cases(aZ l)<;> simp only [zU,Bool.not_false,zct,zcf])| (cases(decide (p<0)||decide ((l.length:Int)<=p))<;> simp only [zct,zcf])|rfl)
 cases fI l u (p+1).toNat <;> simp
inductive aRD(base l:List Zn)(f:Int):List Zn×Int->Prop
 |range (h:∀z∈l,¬(z.first<=f/\f<z.first+z.size)):aRD base l f (base,2)
 |free (i:Nat) (hi:i<l.length) (hf:l[i].first<=f/\f<l[i].first+l[i].size) (hm:f∈l[i].free):aRD base l f (base,5)
 |ok (i:Nat) (hi:i<l.length) (hf:l[i].first<=f/\f<l[i].first+l[i].size) (hm:f∉l[i].free):aRD base l f (base.set i (aXW l[i] f),0)
theorem bCW {z:Zn} {f g:Int} (h:RZ g z)(hg:1<=g):inG f z=true↔z.first<=f/\f<z.first+z.size:=by
 have h1:=h.first;have h2:=h.stop;have j:=h.size;rw [inG,kT,aN (by omega) (by omega)]
 by_cases e:z.first<=f
 ·simp [e]
 ·simp [e]
theorem aF1 {base l:List Zn} {f:Int} (h:aZ l=true):aRD base l f (eT base l f):=by
 have hc:=(eU l).1 h;have m:∀i (j:i<l.length),inG f l[i]=true↔l[i].first<=f/\f<l[i].first+l[i].size:=λi j=>by obtain⟨B,E⟩:=hc.1.get i j;exact bCW B E
 rw [eT,h,zU,zcf]
 by_cases D:eD (inG f) l<0
 ·rw [show decide (eD (inG f) l<0)=true by simpa using D,zct];refine .range λz F=>?_;obtain⟨i,j,rfl⟩:=zA F;rw [<-m i j,(tV _ _).1 D _ (zH j)];simp
 ·rw [show decide (eD (inG f) l<0)=false by simpa using D,zcf];obtain⟨i,j,e,h1,-⟩:=qF (inG f) l (by omega);rw [e,zK,aEJ l i j];obtain⟨B,E⟩:=hc.1.get i j
  cases C:aCH l[i].free f with
  |true=>exact .free i j ((m i j).1 h1) ((aKS B.free.asc f).1 C)
  |false=> refine .ok i j ((m i j).1 h1) λG=>?_;rw [(aKS B.free.asc f).2 G] at C;cases C
theorem aND {base l:List Zn} {f:Int} (j:iW base l)(h:aZ l=true):aZ (eT base l f).1=true:=by
 have hc:=(eU l).1 h;have e:=aF1 (base:=base) (f:=f) h;generalize eT base l f=q at e
 cases e with
 |range _=>rw [j.check];exact h
 |free _ _ _ _=>rw [j.check];exact h
 |ok i m z B=>exact j.set_check h i m ((hc.1.get i m).1.gave z B) rfl
theorem bEE(a b:Int):lF a b (oB a b):=by refine⟨?_,λx e=>(aNS a b x).1 e⟩;rw [oB,List.pairwise_map];refine List.Pairwise.imp (λh=>?_) List.pairwise_lt_range;omega
theorem aKI {n k:Int} (f:0<=n)(h1:n<=64)(j:1<=k):tL n k=n/k/\0<=tL n k/\tL n k<=n:=by have e:n.tdiv k=n/k:=Int.tdiv_eq_ediv_of_nonneg f;have a:=Int.ediv_nonneg f (show 0<=k by omega);have b:=Int.ediv_le_self k f;rw [tL,e,aN (by omega) (by omega)];omega
theorem aV6 {f n:Int} (D:1<=f/\f<=65)(h:aEF f n=false):RZ f (mkZ f n):=by obtain⟨B,e,C,E⟩:=uP D h;have z:=aKI (n:=n) (k:=8) (by omega) e (by decide);have m:=aKI (n:=n) (k:=4) (by omega) e (by decide);have j:=aKI (n:=n) (k:=2) (by omega) e (by decide);exact⟨rfl,⟨B,e⟩,C,⟨z.2.1,by show tL n 8<=tL n 4;rw [z.1,m.1];omega,by show tL n 4<=tL n 2;rw [m.1,j.1];omega,j.2.2⟩,bEE _ _⟩
theorem aSG:∀(s:List Int) (f:Int) (l:List Zn),1<=f/\f<=65->newR f s=some l->vK f l/\l.length=s.length
 | [],f,l,_,h=>by obtain rfl: []=l:=zsi h;exact⟨trivial,rfl⟩
 |n::r,f,l,j,h=>by
  rw [newR] at h
  cases e:aEF f n with
  |true=>rw [e] at h;cases h
  |false=> rw [e,zcf,Option.map_eq_some_iff] at h;obtain⟨l',h1,rfl⟩:=h;have a:=uP j e;obtain⟨h2,m⟩:=aSG r (f+n) l' (by omega) h1;exact⟨⟨aV6 j e,h2⟩,by simp [m]⟩
theorem bDC {s:List Int} (h:(newF s).2=0):aZ (newF s).1=true/\(newF s).1.length=s.length/\newR 1 s=some (newF s).1:=by
 rw [newF] at h⊢
 cases e:((s.length:Int)==0) with
 |true=>rw [e] at h;cases h
 |false=>
  rw [e] at h
  cases f:newR 1 s with
  |none=>rw [f] at h;cases h
  |some l=> obtain⟨h1,h2⟩:=aSG s 1 l (by decide) f;refine⟨(eU l).2 ⟨h1,?_⟩,h2,rfl⟩;rintro rfl;simp only [List.length_nil] at h2;simp [<-h2] at e
end Go.Proofs.YtmhapcbjjpadnaaGreat
