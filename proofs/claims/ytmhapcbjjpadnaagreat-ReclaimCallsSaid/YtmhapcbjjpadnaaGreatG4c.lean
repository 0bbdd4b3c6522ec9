/- Caches. -/
import Derived.Test.YtmhapcbjjpadnaaGreatG3c
set_option linter.all false
set_option maxHeartbeats 16000000
set_option maxRecDepth 40000
open Bool renaming not_eq_true'→zC,cond_false_right→zD,cond_true_left→zE,not_eq_false'→zF,or_eq_false_iff→zI,not_not→zJ,and_eq_true→zL,not_true→zU
open Int renaming toNat_natCast→zK,natCast_nonneg→zN
open List renaming getElem_of_mem→zA,take_succ_eq_append_getElem→zG,getElem_mem→zH,drop_append_of_le_length→zM,length_append→zO,getElem?_eq_getElem→zP,getElem_cons_zero→zQ,getElem_cons_succ→zR,mem_of_mem_drop→zS,takeWhile_cons→zT,drop_sublist→zV,getElem_drop→zW,getElem?_map→zX,length_cons→zY,length_drop→zZ
namespace Go.Proofs.YtmhapcbjjpadnaaGreat
open Go Go.Sk Go.RowKit
theorem aKY:∀(l:List Int) (x:Int) (j:Nat),j<fM l x->l.getD j 0<x
 | [],_,j,h=>by simp [fM] at h
 |y::r,x,j,h=>by
  simp only [fM,zT] at h;split at h
  ·rename_i e
   cases j with
   |zero=>simpa using e
   |succ j=>simpa using aKY r x j (by simpa [fM] using h)
  ·simp at h
theorem aKX:∀(l:List Int) (x:Int),fM l x<l.length->x<=l.getD (fM l x) 0
 | [],_,h=>by simp [fM] at h
 |y::r,x,h=>by
  simp only [fM,zT] at h⊢;split
  ·rename_i e;rw [if_pos e] at h;simpa [fM] using aKX r x (by simpa [fM] using h)
  ·rename_i e;simpa using e
theorem lX {l:List Int} (m:l.Pairwise (·< ·))(i j:Nat)(e:i<j)(f:j<l.length):l.getD i 0<l.getD j 0:=by rw [<-fO l i (by omega),<-fO l j f];exact List.pairwise_iff_getElem.1 m i j (by omega) f e
theorem aYW {l:List Int} (B:l.Pairwise (·< ·)) {x:Int} {k:Nat} (z:k<l.length)(h:l.getD k 0=x):aD5 l x=true:=by
 have :fM l x=k:=aQE l x k (by omega) (λj m=>by rw [<-h];exact lX B j k m z) (λj m f=>by
  by_cases e:j=k
  ·rw [e,h];exact Int.le_refl _
  ·have :=lX B k j (by omega) f;omega)
 rw [aD5,this,h,show decide (k<l.length)=true by simpa using z];simp
theorem bJA {l:List Int} {x:Int} (h:∀k,k<l.length->l.getD k 0≠x):aD5 l x=false:=by
 rw [aD5]
 by_cases e:fM l x<l.length
 ·rw [show decide (fM l x<l.length)=true by simpa using e];simpa using h _ e
 ·rw [show decide (fM l x<l.length)=false by simpa using e];rfl
def qG(l:List Int)(f:Int)(k:Nat):List Int:=if k<=fM l f then l.take k else iR (l.take k) (fM l f) f
theorem aN2(l:List Int)(f:Int)(k:Nat)(e:k<=l.length):(qG l f k).length<=k+1:=by
 unfold qG;split
 ·simp;omega
 ·rw [mN];simp;omega
theorem aN3 {l:List Int} {f:Int} (h:fM l f<l.length):qG l f (fM l f)++ [f]++ [l.getD (fM l f) 0]=qG l f (fM l f+1):=by
 rw [qG,if_pos (Nat.le_refl _),qG,if_neg (by omega),iR,<-fO l _ h,List.take_take,Nat.min_eq_left (by omega),List.append_assoc]
 congr 1
 rw [zG h,zM (by simp;omega),List.drop_of_length_le (by simp;omega)];rfl
theorem aJ1 {l:List Int} {f:Int} {k:Nat} (j:k<l.length)(h:k≠fM l f):qG l f k++ [l.getD k 0]=qG l f (k+1):=by
 rw [<-fO l k j];unfold qG
 by_cases e:k<=fM l f
 ·rw [if_pos e,if_pos (by omega),zG j]
 ·rw [if_neg e,if_neg (by omega),iR,iR,zG j,List.take_append_of_le_length (by simp;omega),zM (by simp;omega)];simp
theorem aN1(l:List Int)(f:Int):(if fM l f<l.length then qG l f l.length else qG l f l.length++ [f])=iR l (fM l f) f:=by
 have :=aAI l f;unfold qG;split
 ·rw [if_neg (by omega),List.take_length]
 ·have e:fM l f=l.length:=by omega
  rw [if_pos (by omega),e,iR];simp
theorem cT(L:List Int)(k:Nat)(h:k<L.length):(aB L).getD ((k:Int)).toNat []=[.int .i64 (L.getD k 0)]:=by rw [zK,bS L k h,fO L k h]
theorem bPO(l:List Zn)(t:Bool)(f:Int)(hl:fL l):aM Tryz.prog 251 [] [.lst 6 t (aK l),.int .i64 f] (.tup [.lst 6 false (aK (eD l l f).1),.int .i64 (eD l l f).2]) []:=by
 have hlen:=hl.len;refine eT (ob0:= []) [.c 63,.c 77,.r 82] Tryz.func251 rfl rfl rfl rfl ?_;generalize hk:eD l l f=q;refine cO (bA5 l t hl) ?_;refine aC (λh1=>?_) (λh1=>?_)<;> try simp only [zE,zD,zC,zF,zJ] at h1
 ·have h1:(!bB l)=true:=by rw [h1];rfl
  simp only [eD,h1,zct] at hk;subst hk;refine Wk ?_
  try subst hk
  exact Lf
 have h1':bB l=true:=by simpa using h1
 have h1:(!bB l)=false:=by rw [h1'];rfl
 have hg:=rO h1';simp only [eD,h1,zcf] at hk;refine Wk ?_;refine⟨Nat,λi=>i<=l.length/\∀j (hj:j<l.length),j<i->inG f l[j]=false,λi=>⟨[(0,⟨[],true,.lst 6 t (aK l)⟩),(1,⟨[],true,.int .i64 f⟩),(6,⟨[],true,.int .i64 (i:Int)⟩)],[],0⟩,λi=>l.length-i,⟨0,⟨by omega,λj hj h=>by omega⟩,?_⟩,λi hI=>?_⟩
 ·exact Vw []
 obtain⟨hI1,hI2⟩:=hI;refine Wk ?_;rw [aF];refine aC (λh3=>?_) (λh3=>?_)<;> try simp only [zE,zD,zC,zF,zJ] at h3
 ·have h3:i<l.length:=by simp at h3;omega
  have hgn:=hg l[i] (zH h3);have hfn:=hl.free l[i] (zH h3);have hpw:=aCR _ _ _ hgn.asc;refine Wk ?_;refine aG (⟨rfl,by omega,by rw [aF];omega⟩) ?_;rw [zK,fC l i h3];refine Wk ?_;refine aC (λh4=>?_) (λh4=>?_)<;> try simp only [zE,zD,zC,zF,zJ] at h4
  ·have h4:inG f l[i]=false:=by have e:=hgn.stop;have e1:=hgn.first;have e2:=hgn.size;rw [inG,lC];rw [aP (by omega) (by omega)] at h4⊢;simp at h4⊢;omega
   refine Wk ?_;rw [aP (n:=(i:Int)+1) (by omega) (by omega),show((i:Int)+1)=((i+1:Nat):Int) by omega];refine⟨i+1,⟨by show i+1<=_;omega,λj hj hj'=>?_⟩,?_,by show l.length- (i+1)<l.length-i;omega⟩
   ·have hj':j<i+1:=hj'
    by_cases e:j=i
    ·subst e;exact h4
    ·exact hI2 j hj (by omega)
   exact Vw []
  have h4:inG f l[i]=true:=by have e:=hgn.stop;have e1:=hgn.first;have e2:=hgn.size;rw [inG,lC];rw [aP (by omega) (by omega)] at h4⊢;simp at h4⊢;omega
  have hix:eJ (inG f) l=i:=rZ _ _ i h3 (λj hj=>hI2 j (by omega) hj) h4;rw [hix] at hk;rw [show decide (((i:Nat):Int)<0)=false by simp,zcf,zK,aF8 l i h3] at hk;generalize hz:l[i]=z at hgn hfn hpw h4 hk;have hpl:=aAI z.free f;refine Wk ?_
  refine⟨Nat×List Int,λy=>(y.1<=z.free.length/\∀j,j<y.1->z.free.getD j 0≠f)/\y.2=qG z.free f y.1,λy=>⟨[(0,⟨[],true,.lst 6 t (aK l)⟩),(1,⟨[],true,.int .i64 f⟩),(6,⟨[],true,.int .i64 (i:Int)⟩),(7,⟨[],true,.ptr 0 0 0⟩),(8,⟨[],true,.sl 1 0 y.2.length⟩),(9,⟨[],true,.bool (decide (fM z.free f<y.1))⟩),(10,⟨[],true,.int .i64 (y.1:Int)⟩)],
   [(0,.box [.int .i64 z.first,.int .i64 z.size,.int .i64 z.min,.int .i64 z.low,.int .i64 z.high,.lst 1 z.ex (aB z.free)]),(1,.row 1 (aB y.2))],2⟩,λy=>z.free.length-y.1,⟨(0,[]),⟨⟨by simp,λj hj=>by simp at hj⟩,by show []=qG z.free f 0;rw [qG,if_pos (by omega),List.take_zero]⟩,?_⟩,λy hk'=>?_⟩
  ·exact Vw [some 0,none]
  obtain⟨k,acc⟩:=y;obtain⟨⟨hk1,hk2⟩,hacc⟩:=hk';simp only at hk1 hk2 hacc;have hal:=aN2 z.free f k hk1;refine Wk ?_;rw [aA];refine aC (λh5=>?_) (λh5=>?_)<;> try simp only [zE,zD,zC,zF,zJ] at h5
  ·have h5:k<z.free.length:=by simp at h5;omega
   refine Wk ?_;have hb:(k:Int)< ((aB z.free).length:Int):=by rw [aA];exact Int.ofNat_lt.2 h5
   refine aG (⟨rfl,zN k,hb⟩) ?_;rw [cT z.free k h5];refine Wk ?_;refine aC (λh6=>?_) (λh6=>?_)<;> try simp only [zE,zD,zC,zF,zJ] at h6
   ·have h6:z.free.getD k 0=f:=by simpa using h6
    rw [aYW hpw h5 h6,zct] at hk;subst hk;refine Wk ?_
    try subst hk
    exact Lf
   have h6:z.free.getD k 0≠f:=by simpa using h6
   refine Wk ?_;generalize hm:(bif decide (fM z.free f=k) then acc++ [f] else acc)=mid
   refine⟨Unit,λ_=>True,λ_=>⟨[(0,⟨[],true,.lst 6 t (aK l)⟩),(1,⟨[],true,.int .i64 f⟩),(6,⟨[],true,.int .i64 (i:Int)⟩),(7,⟨[],true,.ptr 0 0 0⟩),(8,⟨[],true,.sl 1 0 mid.length⟩),(9,⟨[],true,.bool (decide (fM z.free f<k+1))⟩),(10,⟨[],true,.int .i64 (k:Int)⟩)],
    [(0,.box [.int .i64 z.first,.int .i64 z.size,.int .i64 z.min,.int .i64 z.low,.int .i64 z.high,.lst 1 z.ex (aB z.free)]),(1,.row 1 (aB mid))],2⟩,?_,λ_ _=>?_⟩
   ·refine Wk ?_;refine kE (λ_=>⟨rfl,zN k,hb⟩) ?_;rw [cT z.free k h5];refine Wk ?_;refine aC (λh7=>?_) (λh7=>?_)<;> try simp only [zE,zD,zC,zF,zJ] at h7
    ·have h7:(!decide (fM z.free f<k)&&decide (f<z.free.getD k 0))=true:=by simpa using h7
     have e7:fM z.free f=k:=by simp only [zL,zC,zdn,decide_eq_true_eq] at h7;have :=λh=>aKY z.free f k h;omega
     have hm:acc++ [f]=mid:=by rw [<-hm,show decide (fM z.free f=k)=true by simpa using e7];rfl
     subst hm;refine Wk ?_;refine aG ((aA acc).symm) (cA (by show(((aB acc).length+1:Nat):Int)<=_;rw [aA,hacc];omega) (by show((aB acc).length+1)*8<=_;rw [aA,hacc];omega) ?_);refine Wk ?_;refine⟨(),trivial,?_⟩;refine bU [some 0,some ?k172_1] rfl rfl ?h3_172 ?h4_172 ?h5_172 ?h6_172 ?h7_172
     case' h7_172=>repeat' (first |exact trivial |rfl |exact .inl rfl |exact .inr rfl |exact id |exact zbc |apply And.intro)
     case' h4_172=>rfl
     case' h6_172=>rfl
     case' h3_172=>repeat' (first |exact trivial |rfl |exact .inl rfl |exact .inr rfl |exact id |exact zbc |apply And.intro)
     case' h5_172=>repeat' (first |exact trivial |rfl |exact .inl rfl |exact .inr rfl |exact id |exact zbc |apply And.intro)
     ·exact fG acc f
     ·show(aB acc).length+1=_;rw [aA,zO];rfl
     ·show true=decide (fM z.free f<k+1);simp;omega
    have h7:(!decide (fM z.free f<k)&&decide (f<z.free.getD k 0))=false:=by simpa using h7
    have e7:fM z.free f≠k:=by intro e;have :=aKX z.free f (by omega);rw [e] at this;rw [e,show decide (k<k)=false by simp,Bool.not_false,Bool.true_and,zdn] at h7;omega
    have hm:acc=mid:=by rw [<-hm,show decide (fM z.free f=k)=false by simpa using e7];rfl
    subst hm;refine Wk ?_;refine⟨(),trivial,?_⟩;refine bU [some 0,some 1] rfl rfl ?_ rfl ?_ rfl ?_
    repeat' (first |exact trivial |rfl |exact .inl rfl |exact .inr rfl |exact id |exact zbc |apply And.intro)
    exact decide_eq_decide.2 (by show fM z.free f<k↔fM z.free f<k+1;omega)
   refine Wk ?_
   have hml:mid.length<=k+2:=by
    rw [<-hm]
    cases decide (fM z.free f=k) with
    |true=>show(acc++ [f]).length<=_;rw [hacc];have :=hal;simp;omega
    |false=>show acc.length<=_;rw [hacc];omega
   refine aG (⟨rfl,zN k,hb⟩) ?_;rw [cT z.free k h5];refine Wk ?_;refine aG ((aA mid).symm) (cA (by show(((aB mid).length+1:Nat):Int)<=_;rw [aA];omega) (by show((aB mid).length+1)*8<=_;rw [aA];omega) ?_);refine Wk ?_;rw [aP (n:=(k:Int)+1) (by omega) (by omega),show((k:Int)+1)=((k+1:Nat):Int) by omega]
   have hnext:mid++ [z.free.getD k 0]=qG z.free f (k+1):=by
    by_cases e:fM z.free f=k
    ·rw [<-hm,show decide (fM z.free f=k)=true by simpa using e,zct,hacc,<-e];exact aN3 (by omega)
    ·rw [<-hm,show decide (fM z.free f=k)=false by simpa using e,zcf,hacc];exact aJ1 h5 (λh=>e h.symm)
   refine⟨(k+1,mid++ [z.free.getD k 0]),⟨⟨by show k+1<=_;omega,λj hj=>?_⟩,hnext⟩,?_,by show z.free.length- (k+1)<z.free.length-k;omega⟩
   ·have hj:j<k+1:=hj
    by_cases e:j=k
    ·rw [e];exact h6
    ·exact hk2 j (by omega)
   refine bU [some 0,some ?k220_1] rfl rfl ?h3_220 ?h4_220 ?h5_220 ?h6_220 ?h7_220
   case' h7_220=>repeat' (first |exact trivial |rfl |exact .inl rfl |exact .inr rfl |exact id |exact zbc |apply And.intro)
   case' h4_220=>rfl
   case' h6_220=>rfl
   case' h3_220=>repeat' (first |exact trivial |rfl |exact .inl rfl |exact .inr rfl |exact id |exact zbc |apply And.intro)
   case' h5_220=>repeat' (first |exact trivial |rfl |exact .inl rfl |exact .inr rfl |exact id |exact zbc |apply And.intro)
   ·exact fG mid _
   ·show(aB mid).length+1=_;rw [aA,zO];rfl
  have h5:k=z.free.length:=by simp at h5;omega
  subst h5;rw [bJA hk2,zcf] at hk;refine Wk ?_;generalize hr:iR z.free (fM z.free f) f=res;have hrl:res.length=z.free.length+1:=by rw [<-hr,mN]
  have hend:=aN1 z.free f;rw [<-hacc,hr] at hend
  refine⟨Unit,λ_=>True,λ_=>⟨[(0,⟨[],true,.lst 6 t (aK l)⟩),(6,⟨[],true,.int .i64 (i:Int)⟩),(7,⟨[],true,.ptr 0 0 0⟩),(8,⟨[],true,.sl 1 0 res.length⟩)],
   [(0,.box [.int .i64 z.first,.int .i64 z.size,.int .i64 z.min,.int .i64 z.low,.int .i64 z.high,.lst 1 z.ex (aB z.free)]),(1,.row 1 (aB res))],2⟩,?_,λ_ _=>?_⟩
  ·refine Wk ?_;refine aC (λh7=>?_) (λh7=>?_)<;> try simp only [zE,zD,zC,zF,zJ] at h7
   ·have h7:decide (fM z.free f<z.free.length)=false:=h7;have hend:acc++ [f]=res:=by rw [<-hend,if_neg (by simpa using h7)]
    subst hend;refine Wk ?_;refine aG ((aA acc).symm) (cA (by show(((aB acc).length+1:Nat):Int)<=_;rw [aA];simp at hrl;omega) (by show((aB acc).length+1)*8<=_;rw [aA];simp at hrl;omega) ?_);refine Wk ?_;refine⟨(),trivial,?_⟩;refine bU [some 0,some ?k248_1] rfl rfl ?h3_248 ?h4_248 ?h5_248 ?h6_248 ?h7_248
    case' h7_248=>repeat' (first |exact trivial |rfl |exact .inl rfl |exact .inr rfl |exact id |exact zbc |apply And.intro)
    case' h4_248=>rfl
    case' h6_248=>rfl
    case' h3_248=>repeat' (first |exact trivial |rfl |exact .inl rfl |exact .inr rfl |exact id |exact zbc |apply And.intro)
    case' h5_248=>repeat' (first |exact trivial |rfl |exact .inl rfl |exact .inr rfl |exact id |exact zbc |apply And.intro)
    ·exact fG acc f
    ·show(aB acc).length+1=_;rw [aA,zO];rfl
   have h7:decide (fM z.free f<z.free.length)=true:=h7;have hend:acc=res:=by rw [<-hend,if_pos (by simpa using h7)]
   subst hend;refine Wk ?_;refine⟨(),trivial,?_⟩;exact Vw [some 0,some 1]
  refine Wk ?_;refine⟨Unit,λ_=>True,λ_=>⟨[(0,⟨[],true,.lst 6 t (aK l)⟩),(6,⟨[],true,.int .i64 (i:Int)⟩),(7,⟨[],true,.ptr 0 0 0⟩)],[(0,.box (Zn.c ⟨z.first,z.size,z.min,z.low,z.high,res,false⟩))],1⟩,?_,λ_ _=>?_⟩
  ·refine Wk ?_;refine⟨(),trivial,?_⟩;refine bU [some 0] rfl rfl ?_ rfl ?_ rfl ?_
   repeat' (first |exact trivial |rfl |exact .inl rfl |exact .inr rfl |exact id |exact zbc |apply And.intro)
   ·show 0+res.length<=_;rw [aA];omega
   ·exact dB (aA _)
  refine cO (bH2 l t i ⟨z.first,z.size,z.min,z.low,z.high,res,false⟩ h3 hlen) ?_;subst hk;refine⟨[],trivial,rfl,trivial,rfl,?_⟩
  try subst hk
  repeat' (first |exact trivial |rfl |exact .inl rfl |exact .inr rfl |exact id |exact zbc |apply And.intro)
  rw [<-hr];rfl
 have h3:i=l.length:=by simp at h3;omega
 subst h3;have hnone:eJ (inG f) l= -1:=lU _ _ λz hz=>by obtain⟨j,hj,rfl⟩:=zA hz;exact hI2 j hj hj
 rw [hnone] at hk;have hk:(l,(2:Int))=q:=hk;subst hk;refine Wk ?_
 try subst hk
 exact Lf
structure lS(lo hi:Int)(l:List Int):Prop where
 asc:l.Pairwise (·< ·)
 inn:∀x∈l,lo<=x/\x<hi
theorem aN7(lo hi:Int)(l:List Int):aA4 lo hi l l.length=true↔lS lo hi l:=by
 constructor
 ·intro h;refine⟨aCR lo hi l h,λx B=>?_⟩;obtain⟨i,j,rfl⟩:=zA B;have :=vE lo hi l l.length i j h;simp only [mG,zI,zdn] at this;rw [fO l i j];omega
 ·intro h
  have :∀n,n<=l.length->aA4 lo hi l n=true:=by
   intro n
   induction n with
   |zero=>intro _;rfl
   |succ n C=>
    intro D;have f:n<l.length:=by omega
    simp only [aA4,zL,zC,C (by omega),true_and];have m:=h.inn l[n] (zH f);rw [fO l n f] at m
    have z:(decide (0< (n:Int))&&decide (l.getD n 0<=l.getD (n-1) 0))=false:=by
     by_cases e:n=0
     ·simp [e]
     ·have :=lX h.asc (n-1) n (by omega) f;rw [show decide (l.getD n 0<=l.getD (n-1) 0)=false from by simp only [zdn];omega,Bool.and_false]
    simp only [mG,zI,zdn,z,and_true];omega
  exact this _ (Nat.le_refl _)
theorem lS.len:∀ {l:List Int} {lo hi:Int},lS lo hi l->lo<=hi->(l.length:Int)<=hi-lo
 | [],_,_,_,h=>by simp;omega
 |x::r,lo,hi,h,_=>by have j:=h.inn x (by simp);have e:=List.pairwise_cons.1 h.asc;have :=lS.len (l:=r) (lo:=x+1) (hi:=hi) ⟨e.2,λy f=>⟨by have :=e.1 y f;omega,(h.inn y (by simp [f])).2⟩⟩ (by omega);simp only [zY];omega
theorem lS.drop {lo hi:Int} {l:List Int} (h:lS lo hi l)(n:Nat):lS lo hi (l.drop n):= ⟨h.asc.sublist (zV n l),λx e=>h.inn x (zS e)⟩
theorem aHK {l:List Int} {i:Nat} {x y:Int} :y∈iR l i x↔y=x\/y∈l:=by
 rw [iR,List.mem_append,List.mem_cons];constructor
 ·rintro (h |h |h)
  ·exact .inr (List.mem_of_mem_take h)
  ·exact .inl h
  ·exact .inr (zS h)
 ·rintro (h |h)
  ·exact .inr (.inl h)
  ·rw [<-List.take_append_drop i l,List.mem_append] at h;rcases h with h |h
   ·exact .inl h
   ·exact .inr (.inr h)
theorem aLF {l:List Int} (j:l.Pairwise (·< ·))(x:Int):aD5 l x=true↔x∈l:=by
 constructor
 ·intro h;rw [aD5] at h
  by_cases e:fM l x<l.length
  ·rw [show decide (fM l x<l.length)=true by simpa using e,zct] at h;have :l.getD (fM l x) 0=x:=by simpa using h
   rw [<-this,<-fO l _ e];exact zH e
  ·rw [show decide (fM l x<l.length)=false by simpa using e] at h;cases h
 ·intro h;obtain⟨i,f,rfl⟩:=zA h;exact aYW j f (fO l i f).symm
theorem lS.ins {lo hi:Int} {l:List Int} (h:lS lo hi l) {f:Int} (E:lo<=f/\f<hi)(H:f∉l):lS lo hi (iR l (fM l f) f):=by
 refine⟨?_,λx C=>?_⟩
 ·have G:=aAI l f;rw [iR,List.pairwise_append];refine⟨h.asc.sublist (List.take_sublist _ l),List.pairwise_cons.2 ⟨λy J=>?_,h.asc.sublist (zV _ l)⟩,λa D b z=>?_⟩
  ·obtain⟨j,B,rfl⟩:=zA J;rw [zZ] at B;rw [zW,fO l _ (by omega)];have m:fM l f<l.length:=by omega
   have K:=aKX l f m;have h2:l.getD (fM l f+j) 0≠f:=λe=>H (by rw [<-e,<-fO l _ (by omega)];exact zH _)
   by_cases e:j=0
   ·subst e;rw [Nat.add_zero] at h2⊢;omega
   ·have :=lX h.asc (fM l f) (fM l f+j) (by omega) (by omega);omega
  ·obtain⟨j,B,rfl⟩:=zA D;rw [List.length_take] at B;have m:l[j]'(by omega)<f:=by rw [fO l j (by omega)];exact aKY l f j (by omega)
   rw [List.getElem_take];rcases List.mem_cons.1 z with rfl |z
   ·exact m
   ·obtain⟨k,F,rfl⟩:=zA z;rw [zZ] at F;rw [zW,fO l j (by omega),fO l _ (by omega)];exact lX h.asc _ _ (by omega) (by omega)
 ·rcases aHK.1 C with rfl |C
  ·exact E
  ·exact h.inn x C
structure RZ(f:Int)(z:Zn):Prop where
 first :z.first=f
 size:1<=z.size/\z.size<=64
 stop:f+z.size<=65
 marks:0<=z.min/\z.min<=z.low/\z.low<=z.high/\z.high<=z.size
 free:lS f (f+z.size) z.free
theorem aDP {z:Zn} {f:Int} (D:1<=f/\f<=65):kI z f=true↔RZ f z:=by
 constructor
 ·intro h;obtain⟨g,e,h2⟩:=sL D h;have j:=g.stop;rw [e] at j;refine⟨e,g.size,j,g.marks,?_⟩;have :=(aN7 _ _ _).1 g.asc
  rwa [e] at this
 ·intro h;have e:=h.first;have h2:=h.size;have E:=h.stop;have h4:=h.marks;have C:lC z=f+z.size:=by rw [lC,aP (by omega) (by omega)];omega
  have m:jY z f=false:=by simp only [jY,zI,zdn,bne_eq_false_iff_eq];omega
  have B:lH z=false:=by simp only [lH,zI,zdn];omega
  rw [kI,m,B,zcf,zcf,C,e];exact(aN7 _ _ _).2 h.free
def ChZ:Int->List Zn->Prop
 |_,[]=>True
 |f,z::r=>RZ f z/\ChZ (f+z.size) r
theorem aL2:∀(l:List Zn) (f:Int),1<=f/\f<=65->(aAL f l=true↔ChZ f l)
 | [],_,_=>by simp [aAL,ChZ]
 |z::r,f,m=>by
  simp only [aAL,ChZ,zL];rw [aDP m];constructor
  ·rintro ⟨j,h2⟩;have e:=(sL m ((aDP m).2 j)).2.2;have :=j.size;have :=j.stop;rw [e] at h2;exact⟨j,(aL2 r _ (by omega)).1 h2⟩
  ·rintro ⟨j,h2⟩;have e:=(sL m ((aDP m).2 j)).2.2;have :=j.size;have :=j.stop;rw [e];exact⟨j,(aL2 r _ (by omega)).2 h2⟩
theorem eR(l:List Zn):bB l=true↔ChZ 1 l/\l≠ []:=by rw [bB,zL,aL2 l 1 (by decide)];refine and_congr Iff.rfl ?_;cases l <;> simp
theorem ChZ.len:∀ {l:List Zn} {f:Int},ChZ f l->f<=65->f+l.length<=65
 | [],f,_,h=>by simpa using h
 |z::r,f,h,_=>by have :=h.1.size;have :=h.1.stop;have :=ChZ.len h.2 (by omega);simp only [zY];omega
theorem ChZ.get:∀ {l:List Zn} {f:Int},ChZ f l->∀(i:Nat) (h:i<l.length),RZ l[i].first l[i]/\f<=l[i].first
 |z::r,f,h,0,_=>by simp only [zQ];rw [h.1.first];exact⟨h.1,Int.le_refl _⟩
 |z::r,f,h,i+1,hi=>by have e:=ChZ.get h.2 i (by simpa using hi);have j:=h.1.size;simp only [zR];exact⟨e.1,by omega⟩
theorem ChZ.set:∀ {l:List Zn} {f:Int},ChZ f l->∀(i:Nat) (h:i<l.length) (z:Zn),RZ l[i].first z->z.size=l[i].size->ChZ f (l.set i z)
 |y::r,f,h,0,_,z,e,j=>by simp only [zQ] at e j;rw [h.1.first] at e;simp only [List.set_cons_zero,ChZ];rw [j];exact⟨e,h.2⟩
 |y::r,f,h,i+1,hi,z,e,j=>by simp only [zR] at e j;simp only [List.set_cons_succ,ChZ];exact⟨h.1,ChZ.set h.2 i (by simpa using hi) z e j⟩
theorem gO {l:List Zn} (h:bB l=true):fL l:=by have e:=(eR l).1 h;refine⟨by have :=e.1.len (by decide);omega,λz j=>?_⟩;obtain⟨i,f,rfl⟩:=zA j;obtain⟨g,-⟩:=e.1.get i f;have :=g.free.len (by have :=g.size;omega);have :=g.size;omega
theorem aCU {l:List Zn} (h:bB l=true):1<=l.length/\l.length<=64:=by have e:=(eR l).1 h;have :=e.1.len (by decide);have :=List.length_pos_iff.2 e.2;omega
theorem RZ.ex {f:Int} {z:Zn} :RZ f (gM z)↔RZ f z:=⟨λh=>⟨h.1,h.2,h.3,h.4,h.5⟩,λh=>⟨h.1,h.2,h.3,h.4,h.5⟩⟩
theorem ChZ.ex:∀ {l:List Zn} {f:Int},ChZ f (l.map gM)↔ChZ f l
 | [],_=>Iff.rfl
 |z::r,f=>and_congr RZ.ex (ChZ.ex (l:=r))
theorem aNE(l:List Zn):bB (l.map gM)=bB l:=by rw [Bool.eq_iff_iff,eR,eR,ChZ.ex];simp
def fB(a b:List Zn):Prop:=a.map gM=b.map gM
theorem fB.refl(a:List Zn):fB a a:=rfl
theorem fB.ex(a:List Zn):fB (a.map gM) a:=by rw [fB,List.map_map];rfl
theorem fB.trans {a b c:List Zn} (h:fB a b)(k:fB b c):fB a c:=Eq.trans h k
theorem fB.len {a b:List Zn} (h:fB a b):a.length=b.length:=by have :=congrArg List.length h;simpa using this
theorem fB.check {a b:List Zn} (h:fB a b):bB a=bB b:=by rw [<-aNE a,<-aNE b,show a.map gM=b.map gM from h]
theorem fB.get {a b:List Zn} (h:fB a b)(i:Nat)(hi:i<a.length):gM a[i]=gM (b[i]'(by rw [<-h.len];exact hi)):=by
 have e:(a.map gM)[i]? =(b.map gM)[i]? :=by rw [show a.map gM=b.map gM from h]
 have f:i<b.length:=by rw [<-h.len];exact hi
 rw [zX,zX,zP hi,zP f] at e;simpa using e
theorem fB.set {a b:List Zn} (h:fB a b)(i:Nat) {x y:Zn} (e:gM x=gM y):fB (a.set i x) (b.set i y):=by rw [fB,List.map_set,List.map_set,e,show a.map gM=b.map gM from h]
theorem bIU(x y:Zn):eqZ x y=true↔gM x=gM y:=by rw [bCZ];obtain⟨e,f,j,m,z,B,C⟩:=x;obtain⟨D,E,F,G,H,J,K⟩:=y;simp [gM]
theorem aWX {a b:List Zn} (h:fB a b):pJ a b=true:=by rw [aKB];exact⟨h.len,λi e h2=>(bIU _ _).2 (h.get i e)⟩
theorem aEU {l:List Zn} {u:Bool} :∀ {n i:Nat},dW l u n=some i->i<n/\uC u (l.getD i gK)=true/\∀j,i<j->j<n->uC u (l.getD j gK)=false
 |0,i,h=>by cases h
 |n+1,i,h=>by
  simp only [dW] at h
  cases f:uC u (l.getD n gK) with
  |true=> rw [f] at h;obtain rfl:n=i:=zsi h;exact⟨by omega,f,λj m h2=>by omega⟩
  |false=>
   rw [f] at h;obtain⟨m,h2,z⟩:=aEU (n:=n) h;refine⟨by omega,h2,λj B C=>?_⟩
   by_cases e:j=n
   ·rw [e];exact f
   ·exact z j B (by omega)
theorem aET {l:List Zn} {u:Bool} :∀ {n:Nat},dW l u n=none->∀j,j<n->uC u (l.getD j gK)=false
 |0,_,j,m=>by omega
 |n+1,h,j,m=>by
  simp only [dW] at h
  cases f:uC u (l.getD n gK) with
  |true=>rw [f] at h;cases h
  |false=>
   rw [f] at h
   by_cases e:j=n
   ·rw [e];exact f
   ·exact aET (n:=n) h j (by omega)
theorem RZ.taken {f:Int} {z:Zn} (h:RZ f z):RZ f (aIH z):=⟨h.first,h.size,h.stop,h.marks,h.free.drop 1⟩
theorem RZ.gave {f:Int} {z:Zn} (h:RZ f z) {x:Int} (j:f<=x/\x<f+z.size)(e:x∉z.free):RZ f (aO4 z x):=⟨h.first,h.size,h.stop,h.marks,h.free.ins j e⟩
inductive aS9(base l:List Zn)(p:Int)(u:Bool):List Zn×Int×Int->Prop
 |range (h:p<0\/(l.length:Int)<=p):aS9 base l p u (base,0,2)
 |full (h0:0<=p) (h1:p<l.length) (h:∀j:Nat,(j:Int)<=p->uC u (l.getD j gK)=false):aS9 base l p u (base,0,3)
 |ok (h0:0<=p) (h1:p<l.length) (i:Nat) (hi:i<l.length) (hp:(i:Int)<=p) (hz:uC u l[i]=true) (hn:∀j:Nat,i<j->(j:Int)<=p->uC u (l.getD j gK)=false):
  aS9 base l p u (base.set i (aIH l[i]),l[i].free.getD 0 0,0)
theorem aUL {base l:List Zn} {p:Int} {u:Bool} (h:bB l=true):aS9 base l p u (bZ base l p u):=by
 rw [bZ,h,zU,zcf]
 by_cases f:p<0\/(l.length:Int)<=p
 ·rw [show(decide (p<0)||decide ((l.length:Int)<=p))=true by simpa using f,zct]
  exact .range f
 ·rw [show(decide (p<0)||decide ((l.length:Int)<=p))=false by simpa using f,zcf]
  cases m:dW l u (p+1).toNat with
  |none=>exact .full (by omega) (by omega) λj C=>aET m j (by omega)
  |some i=>
   obtain⟨B,h2,z⟩:=aEU m;have e:i<l.length:=by omega
   rw [aF8 l i e] at h2;simp only [aF8 l i e];exact .ok (by omega) (by omega) i e (by omega) h2 λj h4 h5=>z j h4 (by omega)
theorem fB.set_check {base l:List Zn} (m:fB base l)(h:bB l=true)(i:Nat)(hi:i<l.length) {z:Zn} (B:RZ l[i].first z)(f:z.size=l[i].size):bB (base.set i z)=true:=by rw [(m.set i (x:=z) (y:=z) rfl).check,eR];have j:=(eR l).1 h;exact⟨j.1.set i hi z B f,by have :=aCU h;intro e;have :=congrArg List.length e;simp at this;exact j.2 this⟩
theorem uX {base l:List Zn} {p:Int} {u:Bool} (f:fB base l)(h:bB l=true):bB (bZ base l p u).1=true:=by
 have m:=(eR l).1 h;have e:=aUL (base:=base) (p:=p) (u:=u) h;generalize bZ base l p u=q at e
 cases e with
 |range _=>rw [f.check];exact h
 |full _ _ _=>rw [f.check];exact h
 |ok _ _ i j _ _ _=>exact f.set_check h i j (m.1.get i j).1.taken rfl
theorem aX2 {base l:List Zn} {p:Int} {u:Bool} :(bZ base l p u).1.length=base.length:=by
 rw [bZ]
 repeat(first | (cases(bB l)<;> simp only [zU,Bool.not_false,zct,zcf])| (cases(decide (p<0)||decide ((l.length:Int)<=p))<;> simp only [zct,zcf])|rfl)
 cases dW l u (p+1).toNat <;> simp
theorem aX3 {base e l:List Zn} {p:Int} {u:Bool} (f:fB base e):fB (bZ base l p u).1 (bZ e l p u).1/\(bZ base l p u).2=(bZ e l p u).2:=by
 rw [bZ,bZ]
 cases bB l with
 |false=>exact⟨f,rfl⟩
 |true=>
  cases decide (p<0)||decide ((l.length:Int)<=p) with
  |true=>exact⟨f,rfl⟩
  |false=>
   cases j:dW l u (p+1).toNat with
   |none=>exact⟨f,rfl⟩
   |some i=>exact⟨f.set i rfl,rfl⟩
inductive aS6(base l:List Zn)(f:Int):List Zn×Int->Prop
 |range (h:∀z∈l,¬(z.first<=f/\f<z.first+z.size)):aS6 base l f (base,2)
 |free (i:Nat) (hi:i<l.length) (hf:l[i].first<=f/\f<l[i].first+l[i].size) (hm:f∈l[i].free):aS6 base l f (base,5)
 |ok (i:Nat) (hi:i<l.length) (hf:l[i].first<=f/\f<l[i].first+l[i].size) (hm:f∉l[i].free):aS6 base l f (base.set i (aO4 l[i] f),0)
theorem bD8 {z:Zn} {f g:Int} (h:RZ g z)(hg:1<=g):inG f z=true↔z.first<=f/\f<z.first+z.size:=by
 have j:=h.first;have h2:=h.stop;have m:=h.size;rw [inG,lC,aP (by omega) (by omega)]
 by_cases e:z.first<=f
 ·simp [e]
 ·simp [e]
theorem vI {base l:List Zn} {f:Int} (h:bB l=true):aS6 base l f (eD base l f):=by
 have G:=(eR l).1 h;have m:∀i (j:i<l.length),inG f l[i]=true↔l[i].first<=f/\f<l[i].first+l[i].size:=λi j=>by obtain⟨B,E⟩:=G.1.get i j;exact bD8 B E
 rw [eD,h,zU,zcf]
 by_cases D:eJ (inG f) l<0
 ·rw [show decide (eJ (inG f) l<0)=true by simpa using D,zct];refine .range λz H=>?_;obtain⟨i,j,rfl⟩:=zA H;rw [<-m i j,(uE _ _).1 D _ (zH j)];simp
 ·rw [show decide (eJ (inG f) l<0)=false by simpa using D,zcf];obtain⟨i,j,e,F,-⟩:=qQ (inG f) l (by omega);rw [e,zK,aF8 l i j];obtain⟨B,E⟩:=G.1.get i j
  cases C:aD5 l[i].free f with
  |true=>exact .free i j ((m i j).1 F) ((aLF B.free.asc f).1 C)
  |false=> refine .ok i j ((m i j).1 F) λJ=>?_;rw [(aLF B.free.asc f).2 J] at C;cases C
theorem aO7 {base l:List Zn} {f:Int} (j:fB base l)(h:bB l=true):bB (eD base l f).1=true:=by
 have z:=(eR l).1 h;have e:=vI (base:=base) (f:=f) h;generalize eD base l f=q at e
 cases e with
 |range _=>rw [j.check];exact h
 |free _ _ _ _=>rw [j.check];exact h
 |ok i m B C=>exact j.set_check h i m ((z.1.get i m).1.gave B C) rfl
theorem bES(a b:Int):lS a b (oO a b):=by refine⟨?_,λx e=>(aOK a b x).1 e⟩;rw [oO,List.pairwise_map];refine List.Pairwise.imp (λh=>?_) List.pairwise_lt_range;omega
theorem aL6 {n k:Int} (f:0<=n)(j:n<=64)(m:1<=k):tV n k=n/k/\0<=tV n k/\tV n k<=n:=by have e:n.tdiv k=n/k:=Int.tdiv_eq_ediv_of_nonneg f;have a:=Int.ediv_nonneg f (show 0<=k by omega);have b:=Int.ediv_le_self k f;rw [tV,e,aP (by omega) (by omega)];omega
theorem aW4 {f n:Int} (D:1<=f/\f<=65)(h:aF4 f n=false):RZ f (mkZ f n):=by obtain⟨B,e,C,E⟩:=vF D h;have z:=aL6 (n:=n) (k:=8) (by omega) e (by decide);have m:=aL6 (n:=n) (k:=4) (by omega) e (by decide);have j:=aL6 (n:=n) (k:=2) (by omega) e (by decide);exact⟨rfl,⟨B,e⟩,C,⟨z.2.1,by show tV n 8<=tV n 4;rw [z.1,m.1];omega,by show tV n 4<=tV n 2;rw [m.1,j.1];omega,j.2.2⟩,bES _ _⟩
theorem aT9:∀(s:List Int) (f:Int) (l:List Zn),1<=f/\f<=65->newR f s=some l->ChZ f l/\l.length=s.length
 | [],f,l,_,h=>by obtain rfl: []=l:=zsi h;exact⟨trivial,rfl⟩
 |n::r,f,l,j,h=>by
  rw [newR] at h
  cases e:aF4 f n with
  |true=>rw [e] at h;cases h
  |false=> rw [e,zcf,Option.map_eq_some_iff] at h;obtain⟨l',m,rfl⟩:=h;have a:=vF j e;obtain⟨h2,z⟩:=aT9 r (f+n) l' (by omega) m;exact⟨⟨aW4 j e,h2⟩,by simp [z]⟩
theorem bDO {s:List Int} (h:(newF s).2=0):bB (newF s).1=true/\(newF s).1.length=s.length/\newR 1 s=some (newF s).1:=by
 rw [newF] at h⊢
 cases e:((s.length:Int)==0) with
 |true=>rw [e] at h;cases h
 |false=>
  rw [e] at h
  cases f:newR 1 s with
  |none=>rw [f] at h;cases h
  |some l=> obtain⟨j,h2⟩:=aT9 s 1 l (by decide) f;refine⟨(eR l).2 ⟨j,?_⟩,h2,rfl⟩;rintro rfl;simp only [List.length_nil] at h2;simp [<-h2] at e
end Go.Proofs.YtmhapcbjjpadnaaGreat
