/- Caches. -/
import Derived.Test.YtmhapcbjjpadnaaGreatG3b
set_option linter.all false
set_option maxHeartbeats 16000000
set_option maxRecDepth 40000
open Bool renaming not_eq_true'→zD,cond_false_right→zE,cond_true_left→zF,not_eq_false'→zG,or_eq_false_iff→zJ,not_not→zK,and_eq_true→zM,not_true→zV
open Int renaming natCast_nonneg→zA,toNat_natCast→zL
open List renaming getElem_of_mem→zC,take_succ_eq_append_getElem→zH,getElem_mem→zI,drop_append_of_le_length→zN,length_append→zO,getElem?_eq_getElem→zP,getElem_cons_zero→zQ,getElem_cons_succ→zS,mem_of_mem_drop→zT,takeWhile_cons→zU,drop_sublist→zW,getElem_drop→zX,getElem?_map→zY,length_cons→zZ,length_drop→yA
namespace Go.Proofs.YtmhapcbjjpadnaaGreat
open Go Go.Sk Go.RowKit
theorem aHB:∀(l:List Int) (x:Int) (j:Nat),j<eW l x->l.getD j 0<x
 | [],_,j,h=>by simp [eW] at h
 |y::r,x,j,h=>by
  simp only [eW,zU] at h
  split at h
  ·rename_i hy
   cases j with
   |zero=>simpa using hy
   |succ j=>simpa using aHB r x j (by simpa [eW] using h)
  ·simp at h
theorem aHA:∀(l:List Int) (x:Int),eW l x<l.length->x<=l.getD (eW l x) 0
 | [],_,h=>by simp [eW] at h
 |y::r,x,h=>by
  simp only [eW,zU] at h⊢
  split
  ·rename_i hy
   rw [if_pos hy] at h
   simpa [eW] using aHA r x (by simpa [eW] using h)
  ·rename_i hy
   simpa using hy
theorem jZ {l:List Int} (hs:l.Pairwise (·< ·))(i j:Nat)(hij:i<j)(hj:j<l.length):l.getD i 0<l.getD j 0:=by
 rw [<-fI l i (by omega),<-fI l j hj]
 exact List.pairwise_iff_getElem.1 hs i j (by omega) hj hij
theorem aTT {l:List Int} (hs:l.Pairwise (·< ·)) {x:Int} {k:Nat} (hk:k<l.length)(h:l.getD k 0=x):aAS l x=true:=by
 have :eW l x=k:=aMG l x k (by omega) (λj hj=>by rw [<-h];exact jZ hs j k hj hk) (λj hj hj'=>by
  by_cases e:j=k
  ·rw [e,h];exact Int.le_refl _
  ·have :=jZ hs k j (by omega) hj';omega)
 rw [aAS,this,h,show decide (k<l.length)=true by simpa using hk]
 simp
theorem bDM {l:List Int} {x:Int} (h:∀k,k<l.length->l.getD k 0≠x):aAS l x=false:=by
 rw [aAS]
 by_cases e:eW l x<l.length
 ·rw [show decide (eW l x<l.length)=true by simpa using e]
  simpa using h _ e
 ·rw [show decide (eW l x<l.length)=false by simpa using e];rfl
def oQ(l:List Int)(f:Int)(k:Nat):List Int:=if k<=eW l f then l.take k else gQ (l.take k) (eW l f) f
theorem aJB(l:List Int)(f:Int)(k:Nat)(hk:k<=l.length):(oQ l f k).length<=k+1:=by
 unfold oQ
 split
 ·simp;omega
 ·rw [kV];simp;omega
theorem aJC {l:List Int} {f:Int} (h:eW l f<l.length):oQ l f (eW l f)++ [f]++ [l.getD (eW l f) 0]=oQ l f (eW l f+1):=by
 rw [oQ,if_pos (Nat.le_refl _),oQ,if_neg (by omega),gQ,<-fI l _ h,List.take_take,Nat.min_eq_left (by omega),List.append_assoc]
 congr 1
 rw [zH h,zN (by simp;omega),List.drop_of_length_le (by simp;omega)]
 rfl
theorem aFK {l:List Int} {f:Int} {k:Nat} (hk:k<l.length)(h:k≠eW l f):oQ l f k++ [l.getD k 0]=oQ l f (k+1):=by
 rw [<-fI l k hk]
 unfold oQ
 by_cases e:k<=eW l f
 ·rw [if_pos e,if_pos (by omega),zH hk]
 ·rw [if_neg e,if_neg (by omega),gQ,gQ,zH hk,List.take_append_of_le_length (by simp;omega),zN (by simp;omega)]
  simp
theorem aJA(l:List Int)(f:Int):(if eW l f<l.length then oQ l f l.length else oQ l f l.length++ [f])=gQ l (eW l f) f:=by
 have :=uE l f
 unfold oQ
 split
 ·rw [if_neg (by omega),List.take_length]
 ·have e:eW l f=l.length:=by omega
  rw [if_pos (by omega),e,gQ];simp
theorem dX(L:List Int)(k:Nat)(h:k<L.length):(aE L).getD ((k:Int)).toNat []=[.int .i64 (L.getD k 0)]:=by
 rw [zL,bN L k h,fI L k h]
theorem bI7(l:List Zn)(t:Bool)(f:Int)(hl:eV l):aM Tryz.prog 251 [] [.lst 6 t (aQ l),.int .i64 f] (.tup [.lst 6 false (aQ (eG l l f).1),.int .i64 (eG l l f).2]) []:=by
 have hlen:=hl.len
 refine aF (ob0:= []) [.c 63,.c 77,.r 82] Tryz.func251 rfl rfl rfl rfl ?_
 generalize hk:eG l l f=q
 refine cC (aUY l t hl) ?_
 refine aC (λh1=>?_) (λh1=>?_)<;> try simp only [zF,zE,zD,zG,zK] at h1
 ·have h1:(!bF l)=true:=by rw [h1];rfl
  simp only [eG,h1,cond_true] at hk
  subst hk
  refine Wk ?_
  try subst hk
  exact Lf
 have h1':bF l=true:=by simpa using h1
 have h1:(!bF l)=false:=by rw [h1'];rfl
 have hg:=pY h1'
 simp only [eG,h1,cond_false] at hk
 refine Wk ?_
 refine⟨Nat,λi=>i<=l.length/\∀j (hj:j<l.length),j<i->inG f l[j]=false,λi=>⟨[(0,⟨[],true,.lst 6 t (aQ l)⟩),(1,⟨[],true,.int .i64 f⟩),(6,⟨[],true,.int .i64 (i:Int)⟩)],[],0⟩,λi=>l.length-i,⟨0,⟨by omega,λj hj h=>by omega⟩,?_⟩,λi hI=>?_⟩
 ·exact Vw []
 obtain⟨hI1,hI2⟩:=hI
 refine Wk ?_
 rw [aG]
 refine aC (λh3=>?_) (λh3=>?_)<;> try simp only [zF,zE,zD,zG,zK] at h3
 ·have h3:i<l.length:=by simp at h3;omega
  have hgn:=hg l[i] (zI h3)
  have hfn:=hl.free l[i] (zI h3)
  have hpw:=aAF _ _ _ hgn.asc
  refine Wk ?_
  first |refine aB (⟨rfl,by omega,by rw [aG];omega⟩) ?_ |refine aH (λ_=>⟨rfl,by omega,by rw [aG];omega⟩) ?_ |refine⟨λ_=>⟨rfl,by omega,by rw [aG];omega⟩,?_⟩
  rw [zL,eK l i h3]
  refine Wk ?_
  refine aC (λh4=>?_) (λh4=>?_)<;> try simp only [zF,zE,zD,zG,zK] at h4
  ·have h4:inG f l[i]=false:=by
    have e:=hgn.stop;have e1:=hgn.first;have e2:=hgn.size
    rw [inG,jH]
    rw [aR (by omega) (by omega)] at h4⊢
    simp at h4⊢
    omega
   refine Wk ?_
   rw [aR (n:=(i:Int)+1) (by omega) (by omega),show((i:Int)+1)=((i+1:Nat):Int) by omega]
   refine⟨i+1,⟨by show i+1<=_;omega,λj hj hj'=>?_⟩,?_,by show l.length- (i+1)<l.length-i;omega⟩
   ·have hj':j<i+1:=hj'
    by_cases e:j=i
    ·subst e;exact h4
    ·exact hI2 j hj (by omega)
   exact Vw []
  have h4:inG f l[i]=true:=by
   have e:=hgn.stop;have e1:=hgn.first;have e2:=hgn.size
   rw [inG,jH]
   rw [aR (by omega) (by omega)] at h4⊢
   simp at h4⊢
   omega
  have hix:dR (inG f) l=i:=qJ _ _ i h3 (λj hj=>hI2 j (by omega) hj) h4
  rw [hix] at hk
  rw [show decide (((i:Nat):Int)<0)=false by simp,cond_false,zL,uJ l i h3] at hk
  generalize hz:l[i]=z at hgn hfn hpw h4 hk
  have hpl:=uE z.free f
  refine Wk ?_
  refine⟨Nat×List Int,λy=>(y.1<=z.free.length/\∀j,j<y.1->z.free.getD j 0≠f)/\y.2=oQ z.free f y.1,λy=>⟨[(0,⟨[],true,.lst 6 t (aQ l)⟩),(1,⟨[],true,.int .i64 f⟩),(6,⟨[],true,.int .i64 (i:Int)⟩),(7,⟨[],true,.ptr 0 0 0⟩),(8,⟨[],true,.sl 1 0 y.2.length⟩),(9,⟨[],true,.bool (decide (eW z.free f<y.1))⟩),(10,⟨[],true,.int .i64 (y.1:Int)⟩)],
   [(0,.box [.int .i64 z.first,.int .i64 z.size,.int .i64 z.min,.int .i64 z.low,.int .i64 z.high,.lst 1 z.ex (aE z.free)]),(1,.row 1 (aE y.2))],2⟩,λy=>z.free.length-y.1,⟨(0,[]),⟨⟨by simp,λj hj=>by simp at hj⟩,by show []=oQ z.free f 0;rw [oQ,if_pos (by omega),List.take_zero]⟩,?_⟩,λy hk'=>?_⟩
  ·exact Vw [some 0,none]
  obtain⟨k,acc⟩:=y
  obtain⟨⟨hk1,hk2⟩,hacc⟩:=hk'
  simp only at hk1 hk2 hacc
  have hal:=aJB z.free f k hk1
  refine Wk ?_
  rw [aA]
  refine aC (λh5=>?_) (λh5=>?_)<;> try simp only [zF,zE,zD,zG,zK] at h5
  ·have h5:k<z.free.length:=by simp at h5;omega
   refine Wk ?_
   have hb:(k:Int)< ((aE z.free).length:Int):=by rw [aA];exact Int.ofNat_lt.2 h5
   first |refine aB (⟨rfl,zA k,hb⟩) ?_ |refine aH (λ_=>⟨rfl,zA k,hb⟩) ?_ |refine⟨λ_=>⟨rfl,zA k,hb⟩,?_⟩
   rw [dX z.free k h5]
   refine Wk ?_
   refine aC (λh6=>?_) (λh6=>?_)<;> try simp only [zF,zE,zD,zG,zK] at h6
   ·have h6:z.free.getD k 0=f:=by simpa using h6
    rw [aTT hpw h5 h6,cond_true] at hk
    subst hk
    refine Wk ?_
    try subst hk
    exact Lf
   have h6:z.free.getD k 0≠f:=by simpa using h6
   refine Wk ?_
   generalize hm:(bif decide (eW z.free f=k) then acc++ [f] else acc)=mid
   refine⟨Unit,λ_=>True,λ_=>⟨[(0,⟨[],true,.lst 6 t (aQ l)⟩),(1,⟨[],true,.int .i64 f⟩),(6,⟨[],true,.int .i64 (i:Int)⟩),(7,⟨[],true,.ptr 0 0 0⟩),(8,⟨[],true,.sl 1 0 mid.length⟩),(9,⟨[],true,.bool (decide (eW z.free f<k+1))⟩),(10,⟨[],true,.int .i64 (k:Int)⟩)],
    [(0,.box [.int .i64 z.first,.int .i64 z.size,.int .i64 z.min,.int .i64 z.low,.int .i64 z.high,.lst 1 z.ex (aE z.free)]),(1,.row 1 (aE mid))],2⟩,?_,λ_ _=>?_⟩
   ·refine Wk ?_
    first |refine aB (⟨rfl,zA k,hb⟩) ?_ |refine aH (λ_=>⟨rfl,zA k,hb⟩) ?_ |refine⟨λ_=>⟨rfl,zA k,hb⟩,?_⟩
    rw [dX z.free k h5]
    refine Wk ?_
    refine aC (λh7=>?_) (λh7=>?_)<;> try simp only [zF,zE,zD,zG,zK] at h7
    ·have h7:(!decide (eW z.free f<k)&&decide (f<z.free.getD k 0))=true:=by simpa using h7
     have e7:eW z.free f=k:=by
      simp only [zM,zD,decide_eq_false_iff_not,decide_eq_true_eq] at h7
      have :=λh=>aHB z.free f k h
      omega
     have hm:acc++ [f]=mid:=by rw [<-hm,show decide (eW z.free f=k)=true by simpa using e7];rfl
     subst hm
     refine Wk ?_
     first |refine aB ((aA acc).symm) (bG (by show(((aE acc).length+1:Nat):Int)<=_;rw [aA,hacc];omega) (by show((aE acc).length+1)*8<=_;rw [aA,hacc];omega) ?_)|refine aB ⟨(aA acc).symm,by show(((aE acc).length+1:Nat):Int)<=_;rw [aA,hacc];omega,by show((aE acc).length+1)*8<=_;rw [aA,hacc];omega⟩ ?_ |refine⟨(aA acc).symm,by show(((aE acc).length+1:Nat):Int)<=_;rw [aA,hacc];omega,by show((aE acc).length+1)*8<=_;rw [aA,hacc];omega,?_⟩
     refine Wk ?_
     refine⟨(),trivial,?_⟩
     refine bX [some 0,some ?k172_1] rfl rfl ?h3_172 ?h4_172 ?h5_172 ?h6_172 ?h7_172
     case' h7_172=>repeat' (first |exact trivial |rfl |exact .inl rfl |exact .inr rfl |exact id |exact(λh=>Bool.noConfusion h)|refine And.intro ?_ ?_)
     case' h4_172=>rfl
     case' h6_172=>rfl
     case' h3_172=>repeat' (first |exact trivial |rfl |exact .inl rfl |exact .inr rfl |exact id |exact(λh=>Bool.noConfusion h)|refine And.intro ?_ ?_)
     case' h5_172=>repeat' (first |exact trivial |rfl |exact .inl rfl |exact .inr rfl |exact id |exact(λh=>Bool.noConfusion h)|refine And.intro ?_ ?_)
     ·exact fW acc f
     ·show(aE acc).length+1=_
      rw [aA,zO];rfl
     ·show true=decide (eW z.free f<k+1)
      simp;omega
    have h7:(!decide (eW z.free f<k)&&decide (f<z.free.getD k 0))=false:=by simpa using h7
    have e7:eW z.free f≠k:=by
     intro e
     have :=aHA z.free f (by omega)
     rw [e] at this
     rw [e,show decide (k<k)=false by simp,Bool.not_false,Bool.true_and,decide_eq_false_iff_not] at h7
     omega
    have hm:acc=mid:=by rw [<-hm,show decide (eW z.free f=k)=false by simpa using e7];rfl
    subst hm
    refine Wk ?_
    refine⟨(),trivial,?_⟩
    refine bX [some 0,some 1] rfl rfl ?_ rfl ?_ rfl ?_
    repeat' (first |exact trivial |rfl |exact .inl rfl |exact .inr rfl |exact id |exact(λh=>Bool.noConfusion h)|refine And.intro ?_ ?_)
    exact decide_eq_decide.2 (by show eW z.free f<k↔eW z.free f<k+1;omega)
   refine Wk ?_
   have hml:mid.length<=k+2:=by
    rw [<-hm]
    cases decide (eW z.free f=k) with
    |true=>show(acc++ [f]).length<=_;rw [hacc];have :=hal;simp;omega
    |false=>show acc.length<=_;rw [hacc];omega
   first |refine aB (⟨rfl,zA k,hb⟩) ?_ |refine aH (λ_=>⟨rfl,zA k,hb⟩) ?_ |refine⟨λ_=>⟨rfl,zA k,hb⟩,?_⟩
   rw [dX z.free k h5]
   refine Wk ?_
   first |refine aB ((aA mid).symm) (bG (by show(((aE mid).length+1:Nat):Int)<=_;rw [aA];omega) (by show((aE mid).length+1)*8<=_;rw [aA];omega) ?_)|refine aB ⟨(aA mid).symm,by show(((aE mid).length+1:Nat):Int)<=_;rw [aA];omega,by show((aE mid).length+1)*8<=_;rw [aA];omega⟩ ?_ |refine⟨(aA mid).symm,by show(((aE mid).length+1:Nat):Int)<=_;rw [aA];omega,by show((aE mid).length+1)*8<=_;rw [aA];omega,?_⟩
   refine Wk ?_
   rw [aR (n:=(k:Int)+1) (by omega) (by omega),show((k:Int)+1)=((k+1:Nat):Int) by omega]
   have hnext:mid++ [z.free.getD k 0]=oQ z.free f (k+1):=by
    by_cases e:eW z.free f=k
    ·rw [<-hm,show decide (eW z.free f=k)=true by simpa using e,cond_true,hacc,<-e]
     exact aJC (by omega)
    ·rw [<-hm,show decide (eW z.free f=k)=false by simpa using e,cond_false,hacc]
     exact aFK h5 (λh=>e h.symm)
   refine⟨(k+1,mid++ [z.free.getD k 0]),⟨⟨by show k+1<=_;omega,λj hj=>?_⟩,hnext⟩,?_,by show z.free.length- (k+1)<z.free.length-k;omega⟩
   ·have hj:j<k+1:=hj
    by_cases e:j=k
    ·rw [e];exact h6
    ·exact hk2 j (by omega)
   refine bX [some 0,some ?k220_1] rfl rfl ?h3_220 ?h4_220 ?h5_220 ?h6_220 ?h7_220
   case' h7_220=>repeat' (first |exact trivial |rfl |exact .inl rfl |exact .inr rfl |exact id |exact(λh=>Bool.noConfusion h)|refine And.intro ?_ ?_)
   case' h4_220=>rfl
   case' h6_220=>rfl
   case' h3_220=>repeat' (first |exact trivial |rfl |exact .inl rfl |exact .inr rfl |exact id |exact(λh=>Bool.noConfusion h)|refine And.intro ?_ ?_)
   case' h5_220=>repeat' (first |exact trivial |rfl |exact .inl rfl |exact .inr rfl |exact id |exact(λh=>Bool.noConfusion h)|refine And.intro ?_ ?_)
   ·exact fW mid _
   ·show(aE mid).length+1=_
    rw [aA,zO];rfl
  have h5:k=z.free.length:=by simp at h5;omega
  subst h5
  rw [bDM hk2,cond_false] at hk
  refine Wk ?_
  generalize hr:gQ z.free (eW z.free f) f=res
  have hrl:res.length=z.free.length+1:=by rw [<-hr,kV]
  have hend:=aJA z.free f
  rw [<-hacc,hr] at hend
  refine⟨Unit,λ_=>True,λ_=>⟨[(0,⟨[],true,.lst 6 t (aQ l)⟩),(6,⟨[],true,.int .i64 (i:Int)⟩),(7,⟨[],true,.ptr 0 0 0⟩),(8,⟨[],true,.sl 1 0 res.length⟩)],
   [(0,.box [.int .i64 z.first,.int .i64 z.size,.int .i64 z.min,.int .i64 z.low,.int .i64 z.high,.lst 1 z.ex (aE z.free)]),(1,.row 1 (aE res))],2⟩,?_,λ_ _=>?_⟩
  ·refine Wk ?_
   refine aC (λh7=>?_) (λh7=>?_)<;> try simp only [zF,zE,zD,zG,zK] at h7
   ·have h7:decide (eW z.free f<z.free.length)=false:=h7
    have hend:acc++ [f]=res:=by rw [<-hend,if_neg (by simpa using h7)]
    subst hend
    refine Wk ?_
    first |refine aB ((aA acc).symm) (bG (by show(((aE acc).length+1:Nat):Int)<=_;rw [aA];simp at hrl;omega) (by show((aE acc).length+1)*8<=_;rw [aA];simp at hrl;omega) ?_)|refine aB ⟨(aA acc).symm,by show(((aE acc).length+1:Nat):Int)<=_;rw [aA];simp at hrl;omega,by show((aE acc).length+1)*8<=_;rw [aA];simp at hrl;omega⟩ ?_ |refine⟨(aA acc).symm,by show(((aE acc).length+1:Nat):Int)<=_;rw [aA];simp at hrl;omega,by show((aE acc).length+1)*8<=_;rw [aA];simp at hrl;omega,?_⟩
    refine Wk ?_
    refine⟨(),trivial,?_⟩
    refine bX [some 0,some ?k248_1] rfl rfl ?h3_248 ?h4_248 ?h5_248 ?h6_248 ?h7_248
    case' h7_248=>repeat' (first |exact trivial |rfl |exact .inl rfl |exact .inr rfl |exact id |exact(λh=>Bool.noConfusion h)|refine And.intro ?_ ?_)
    case' h4_248=>rfl
    case' h6_248=>rfl
    case' h3_248=>repeat' (first |exact trivial |rfl |exact .inl rfl |exact .inr rfl |exact id |exact(λh=>Bool.noConfusion h)|refine And.intro ?_ ?_)
    case' h5_248=>repeat' (first |exact trivial |rfl |exact .inl rfl |exact .inr rfl |exact id |exact(λh=>Bool.noConfusion h)|refine And.intro ?_ ?_)
    ·exact fW acc f
    ·show(aE acc).length+1=_
     rw [aA,zO];rfl
   have h7:decide (eW z.free f<z.free.length)=true:=h7
   have hend:acc=res:=by rw [<-hend,if_pos (by simpa using h7)]
   subst hend
   refine Wk ?_
   refine⟨(),trivial,?_⟩
   exact Vw [some 0,some 1]
  refine Wk ?_
  refine⟨Unit,λ_=>True,λ_=>⟨[(0,⟨[],true,.lst 6 t (aQ l)⟩),(6,⟨[],true,.int .i64 (i:Int)⟩),(7,⟨[],true,.ptr 0 0 0⟩)],[(0,.box (Zn.c ⟨z.first,z.size,z.min,z.low,z.high,res,false⟩))],1⟩,?_,λ_ _=>?_⟩
  ·refine Wk ?_
   refine⟨(),trivial,?_⟩
   refine bX [some 0] rfl rfl ?_ rfl ?_ rfl ?_
   repeat' (first |exact trivial |rfl |exact .inl rfl |exact .inr rfl |exact id |exact(λh=>Bool.noConfusion h)|refine And.intro ?_ ?_)
   ·show 0+res.length<=_
    rw [aA];omega
   ·exact dB (aA _)
  refine cC (bBB l t i ⟨z.first,z.size,z.min,z.low,z.high,res,false⟩ h3 hlen) ?_
  subst hk
  refine⟨[],trivial,rfl,trivial,rfl,?_⟩
  try subst hk
  repeat' (first |exact trivial |rfl |exact .inl rfl |exact .inr rfl |exact id |exact(λh=>Bool.noConfusion h)|refine And.intro ?_ ?_)
  rw [<-hr];rfl
 have h3:i=l.length:=by simp at h3;omega
 subst h3
 have hnone:dR (inG f) l= -1:=jV _ _ λz hz=>by
  obtain⟨j,hj,rfl⟩:=zC hz
  exact hI2 j hj hj
 rw [hnone] at hk
 have hk:(l,(2:Int))=q:=hk
 subst hk
 refine Wk ?_
 try subst hk
 exact Lf
end Go.Proofs.YtmhapcbjjpadnaaGreat
namespace Go.Proofs.YtmhapcbjjpadnaaGreat
open Go Go.Sk Go.RowKit
structure jT(lo hi:Int)(l:List Int):Prop where
 asc:l.Pairwise (·< ·)
 inn:∀x∈l,lo<=x/\x<hi
theorem aJH(lo hi:Int)(l:List Int):tU lo hi l l.length=true↔jT lo hi l:=by
 constructor
 ·intro h
  refine⟨aAF lo hi l h,λx hx=>?_⟩
  obtain⟨i,hi',rfl⟩:=zC hx
  have :=sX lo hi l l.length i hi' h
  simp only [kL,zJ,decide_eq_false_iff_not] at this
  rw [fI l i hi']
  omega
 ·intro h
  have :∀n,n<=l.length->tU lo hi l n=true:=by
   intro n
   induction n with
   |zero=>intro _;rfl
   |succ n ih=>
    intro hn
    have hlt:n<l.length:=by omega
    simp only [tU,zM,zD,ih (by omega),true_and]
    have hin:=h.inn l[n] (zI hlt)
    rw [fI l n hlt] at hin
    have h3:(decide (0< (n:Int))&&decide (l.getD n 0<=l.getD (n-1) 0))=false:=by
     by_cases e:n=0
     ·simp [e]
     ·have :=jZ h.asc (n-1) n (by omega) hlt
      rw [show decide (l.getD n 0<=l.getD (n-1) 0)=false from by simp only [decide_eq_false_iff_not];omega,Bool.and_false]
    simp only [kL,zJ,decide_eq_false_iff_not,h3,and_true]
    omega
  exact this _ (Nat.le_refl _)
theorem jT.len:∀ {l:List Int} {lo hi:Int},jT lo hi l->lo<=hi->(l.length:Int)<=hi-lo
 | [],_,_,_,h=>by simp;omega
 |x::r,lo,hi,h,_=>by
  have hx:=h.inn x (by simp)
  have hp:=List.pairwise_cons.1 h.asc
  have :=jT.len (l:=r) (lo:=x+1) (hi:=hi) ⟨hp.2,λy hy=>⟨by have :=hp.1 y hy;omega,(h.inn y (by simp [hy])).2⟩⟩ (by omega)
  simp only [zZ]
  omega
theorem jT.drop {lo hi:Int} {l:List Int} (h:jT lo hi l)(n:Nat):jT lo hi (l.drop n):=
 ⟨h.asc.sublist (zW n l),λx hx=>h.inn x (zT hx)⟩
theorem aEE {l:List Int} {i:Nat} {x y:Int} :y∈gQ l i x↔y=x\/y∈l:=by
 rw [gQ,List.mem_append,List.mem_cons]
 constructor
 ·rintro (h |h |h)
  ·exact .inr (List.mem_of_mem_take h)
  ·exact .inl h
  ·exact .inr (zT h)
 ·rintro (h |h)
  ·exact .inr (.inl h)
  ·rw [<-List.take_append_drop i l,List.mem_append] at h
   rcases h with h |h
   ·exact .inl h
   ·exact .inr (.inr h)
theorem aHS {l:List Int} (hs:l.Pairwise (·< ·))(x:Int):aAS l x=true↔x∈l:=by
 constructor
 ·intro h
  rw [aAS] at h
  by_cases e:eW l x<l.length
  ·rw [show decide (eW l x<l.length)=true by simpa using e,cond_true] at h
   have :l.getD (eW l x) 0=x:=by simpa using h
   rw [<-this,<-fI l _ e]
   exact zI e
  ·rw [show decide (eW l x<l.length)=false by simpa using e] at h;cases h
 ·intro h
  obtain⟨i,hi,rfl⟩:=zC h
  exact aTT hs hi (fI l i hi).symm
theorem jT.ins {lo hi:Int} {l:List Int} (h:jT lo hi l) {f:Int} (hf:lo<=f/\f<hi)(hn:f∉l):jT lo hi (gQ l (eW l f) f):=by
 refine⟨?_,λx hx=>?_⟩
 ·have hle:=uE l f
  rw [gQ,List.pairwise_append]
  refine⟨h.asc.sublist (List.take_sublist _ l),List.pairwise_cons.2 ⟨λy hy=>?_,h.asc.sublist (zW _ l)⟩,λa ha b hb=>?_⟩
  ·obtain⟨j,hj,rfl⟩:=zC hy
   rw [yA] at hj
   rw [zX,fI l _ (by omega)]
   have hlt:eW l f<l.length:=by omega
   have h1:=aHA l f hlt
   have h2:l.getD (eW l f+j) 0≠f:=λe=>hn (by rw [<-e,<-fI l _ (by omega)];exact zI _)
   by_cases e:j=0
   ·subst e;rw [Nat.add_zero] at h2⊢;omega
   ·have :=jZ h.asc (eW l f) (eW l f+j) (by omega) (by omega);omega
  ·obtain⟨j,hj,rfl⟩:=zC ha
   rw [List.length_take] at hj
   have hlt:l[j]'(by omega)<f:=by rw [fI l j (by omega)];exact aHB l f j (by omega)
   rw [List.getElem_take]
   rcases List.mem_cons.1 hb with rfl |hb
   ·exact hlt
   ·obtain⟨k,hk,rfl⟩:=zC hb
    rw [yA] at hk
    rw [zX,fI l j (by omega),fI l _ (by omega)]
    exact jZ h.asc _ _ (by omega) (by omega)
 ·rcases aEE.1 hx with rfl |hx
  ·exact hf
  ·exact h.inn x hx
structure RZ(f:Int)(z:Zn):Prop where
 first :z.first=f
 size:1<=z.size/\z.size<=64
 stop:f+z.size<=65
 marks:0<=z.min/\z.min<=z.low/\z.low<=z.high/\z.high<=z.size
 free:jT f (f+z.size) z.free
theorem aBA {z:Zn} {f:Int} (hf:1<=f/\f<=65):iR z f=true↔RZ f z:=by
 constructor
 ·intro h
  obtain⟨g,h1,h2⟩:=qR hf h
  have g2:=g.stop
  rw [h1] at g2
  refine⟨h1,g.size,g2,g.marks,?_⟩
  have :=(aJH _ _ _).1 g.asc
  rwa [h1] at this
 ·intro h
  have h1:=h.first
  have h2:=h.size
  have h3:=h.stop
  have h4:=h.marks
  have he:jH z=f+z.size:=by rw [jH,aR (by omega) (by omega)];omega
  have a1:iM z f=false:=by
   simp only [iM,zJ,decide_eq_false_iff_not,bne_eq_false_iff_eq];omega
  have a2:jL z=false:=by
   simp only [jL,zJ,decide_eq_false_iff_not];omega
  rw [iR,a1,a2,cond_false,cond_false,he,h1]
  exact(aJH _ _ _).2 h.free
def tQ:Int->List Zn->Prop
 |_,[]=>True
 |f,z::r=>RZ f z/\tQ (f+z.size) r
theorem aHF:∀(l:List Zn) (f:Int),1<=f/\f<=65->(uH f l=true↔tQ f l)
 | [],_,_=>by simp [uH,tQ]
 |z::r,f,hf=>by
  simp only [uH,tQ,zM]
  rw [aBA hf]
  constructor
  ·rintro ⟨h1,h2⟩
   have e:=(qR hf ((aBA hf).2 h1)).2.2
   have :=h1.size;have :=h1.stop
   rw [e] at h2
   exact⟨h1,(aHF r _ (by omega)).1 h2⟩
  ·rintro ⟨h1,h2⟩
   have e:=(qR hf ((aBA hf).2 h1)).2.2
   have :=h1.size;have :=h1.stop
   rw [e]
   exact⟨h1,(aHF r _ (by omega)).2 h2⟩
theorem eH(l:List Zn):bF l=true↔tQ 1 l/\l≠ []:=by
 rw [bF,zM,aHF l 1 (by decide)]
 refine and_congr Iff.rfl ?_
 cases l <;> simp
theorem tQ.len:∀ {l:List Zn} {f:Int},tQ f l->f<=65->f+l.length<=65
 | [],f,_,h=>by simpa using h
 |z::r,f,h,_=>by
  have :=h.1.size;have :=h.1.stop
  have :=tQ.len h.2 (by omega)
  simp only [zZ];omega
theorem tQ.get:∀ {l:List Zn} {f:Int},tQ f l->∀(i:Nat) (h:i<l.length),RZ l[i].first l[i]/\f<=l[i].first
 |z::r,f,h,0,_=>by simp only [zQ];rw [h.1.first];exact⟨h.1,Int.le_refl _⟩
 |z::r,f,h,i+1,hi=>by
  have a1:=tQ.get h.2 i (by simpa using hi)
  have a2:=h.1.size
  simp only [zS]
  exact⟨a1.1,by omega⟩
theorem tQ.set:∀ {l:List Zn} {f:Int},tQ f l->∀(i:Nat) (h:i<l.length) (z:Zn),RZ l[i].first z->z.size=l[i].size->tQ f (l.set i z)
 |y::r,f,h,0,_,z,hz,hs=>by
  simp only [zQ] at hz hs
  rw [h.1.first] at hz
  simp only [List.set_cons_zero,tQ]
  rw [hs]
  exact⟨hz,h.2⟩
 |y::r,f,h,i+1,hi,z,hz,hs=>by
  simp only [zS] at hz hs
  simp only [List.set_cons_succ,tQ]
  exact⟨h.1,tQ.set h.2 i (by simpa using hi) z hz hs⟩
theorem nB {l:List Zn} (h:bF l=true):eV l:=by
 have hc:=(eH l).1 h
 refine⟨by have :=hc.1.len (by decide);omega,λz hz=>?_⟩
 obtain⟨i,hi,rfl⟩:=zC hz
 obtain⟨g,-⟩:=hc.1.get i hi
 have :=g.free.len (by have :=g.size;omega)
 have :=g.size
 omega
theorem aAI {l:List Zn} (h:bF l=true):1<=l.length/\l.length<=64:=by
 have hc:=(eH l).1 h
 have :=hc.1.len (by decide)
 have :=List.length_pos_iff.2 hc.2
 omega
theorem RZ.ex {f:Int} {z:Zn} :RZ f (gF z)↔RZ f z:=⟨λh=>⟨h.1,h.2,h.3,h.4,h.5⟩,λh=>⟨h.1,h.2,h.3,h.4,h.5⟩⟩
theorem tQ.ex:∀ {l:List Zn} {f:Int},tQ f (l.map gF)↔tQ f l
 | [],_=>Iff.rfl
 |z::r,f=>and_congr RZ.ex (tQ.ex (l:=r))
theorem aJN(l:List Zn):bF (l.map gF)=bF l:=by
 rw [Bool.eq_iff_iff,eH,eH,tQ.ex]
 simp
def gX(a b:List Zn):Prop:=a.map gF=b.map gF
theorem gX.refl(a:List Zn):gX a a:=rfl
theorem gX.ex(a:List Zn):gX (a.map gF) a:=by rw [gX,List.map_map];rfl
theorem gX.trans {a b c:List Zn} (h:gX a b)(k:gX b c):gX a c:=Eq.trans h k
theorem gX.len {a b:List Zn} (h:gX a b):a.length=b.length:=by have :=congrArg List.length h;simpa using this
theorem gX.check {a b:List Zn} (h:gX a b):bF a=bF b:=by rw [<-aJN a,<-aJN b,show a.map gF=b.map gF from h]
theorem gX.get {a b:List Zn} (h:gX a b)(i:Nat)(hi:i<a.length):gF a[i]=gF (b[i]'(by rw [<-h.len];exact hi)):=by
 have h1:(a.map gF)[i]? =(b.map gF)[i]? :=by rw [show a.map gF=b.map gF from h]
 have hb:i<b.length:=by rw [<-h.len];exact hi
 rw [zY,zY,zP hi,zP hb] at h1
 simpa using h1
theorem gX.set {a b:List Zn} (h:gX a b)(i:Nat) {x y:Zn} (e:gF x=gF y):gX (a.set i x) (b.set i y):=by
 rw [gX,List.map_set,List.map_set,e,show a.map gF=b.map gF from h]
theorem bD8(x y:Zn):eqZ x y=true↔gF x=gF y:=by
 rw [aY7]
 obtain⟨a1,a2,a3,a4,a5,a6,a7⟩:=x
 obtain⟨b1,b2,b3,b4,b5,b6,b7⟩:=y
 simp [gF]
theorem aSB {a b:List Zn} (h:gX a b):nT a b=true:=by
 rw [aGY]
 exact⟨h.len,λi h1 h2=>(bD8 _ _).2 (h.get i h1)⟩
theorem aCC {l:List Zn} {u:Bool} :∀ {n i:Nat},dO l u n=some i->i<n/\mT u (l.getD i gD)=true/\∀j,i<j->j<n->mT u (l.getD j gD)=false
 |0,i,h=>by cases h
 |n+1,i,h=>by
  simp only [dO] at h
  cases hz:mT u (l.getD n gD) with
  |true=>
   rw [hz] at h
   obtain rfl:n=i:=Option.some.inj h
   exact⟨by omega,hz,λj h1 h2=>by omega⟩
  |false=>
   rw [hz] at h
   obtain⟨h1,h2,h3⟩:=aCC (n:=n) h
   refine⟨by omega,h2,λj hj hj'=>?_⟩
   by_cases e:j=n
   ·rw [e];exact hz
   ·exact h3 j hj (by omega)
theorem aCB {l:List Zn} {u:Bool} :∀ {n:Nat},dO l u n=none->∀j,j<n->mT u (l.getD j gD)=false
 |0,_,j,hj=>by omega
 |n+1,h,j,hj=>by
  simp only [dO] at h
  cases hz:mT u (l.getD n gD) with
  |true=>rw [hz] at h;cases h
  |false=>
   rw [hz] at h
   by_cases e:j=n
   ·rw [e];exact hz
   ·exact aCB (n:=n) h j (by omega)
theorem RZ.taken {f:Int} {z:Zn} (h:RZ f z):RZ f (aF9 z):=⟨h.first,h.size,h.stop,h.marks,h.free.drop 1⟩
theorem RZ.gave {f:Int} {z:Zn} (h:RZ f z) {x:Int} (hx:f<=x/\x<f+z.size)(hn:x∉z.free):RZ f (aK8 z x):=⟨h.first,h.size,h.stop,h.marks,h.free.ins hx hn⟩
inductive aOG(base l:List Zn)(p:Int)(u:Bool):List Zn×Int×Int->Prop
 |range (h:p<0\/(l.length:Int)<=p):aOG base l p u (base,0,2)
 |full (h0:0<=p) (h1:p<l.length) (h:∀j:Nat,(j:Int)<=p->mT u (l.getD j gD)=false):aOG base l p u (base,0,3)
 |ok (h0:0<=p) (h1:p<l.length) (i:Nat) (hi:i<l.length) (hp:(i:Int)<=p) (hz:mT u l[i]=true) (hn:∀j:Nat,i<j->(j:Int)<=p->mT u (l.getD j gD)=false):
  aOG base l p u (base.set i (aF9 l[i]),l[i].free.getD 0 0,0)
theorem aQB {base l:List Zn} {p:Int} {u:Bool} (h:bF l=true):aOG base l p u (cJ base l p u):=by
 rw [cJ,h,zV,cond_false]
 by_cases hr:p<0\/(l.length:Int)<=p
 ·rw [show(decide (p<0)||decide ((l.length:Int)<=p))=true by simpa using hr,cond_true]
  exact .range hr
 ·rw [show(decide (p<0)||decide ((l.length:Int)<=p))=false by simpa using hr,cond_false]
  cases ht:dO l u (p+1).toNat with
  |none=>exact .full (by omega) (by omega) λj hj=>aCB ht j (by omega)
  |some i=>
   obtain⟨h1,h2,h3⟩:=aCC ht
   have hi:i<l.length:=by omega
   rw [uJ l i hi] at h2
   simp only [uJ l i hi]
   exact .ok (by omega) (by omega) i hi (by omega) h2 λj h4 h5=>h3 j h4 (by omega)
theorem gX.set_check {base l:List Zn} (hs:gX base l)(h:bF l=true)(i:Nat)(hi:i<l.length) {z:Zn} (hz:RZ l[i].first z)(hsz:z.size=l[i].size):bF (base.set i z)=true:=by
 rw [(hs.set i (x:=z) (y:=z) rfl).check,eH]
 have hc:=(eH l).1 h
 exact⟨hc.1.set i hi z hz hsz,by have :=aAI h;intro e;have :=congrArg List.length e;simp at this;exact hc.2 this⟩
theorem aLP {base l:List Zn} {p:Int} {u:Bool} (hs:gX base l)(h:bF l=true):bF (cJ base l p u).1=true:=by
 have hc:=(eH l).1 h
 have key:=aQB (base:=base) (p:=p) (u:=u) h
 generalize cJ base l p u=q at key
 cases key with
 |range _=>rw [hs.check];exact h
 |full _ _ _=>rw [hs.check];exact h
 |ok _ _ i hi _ _ _=>exact hs.set_check h i hi (hc.1.get i hi).1.taken rfl
theorem aSF {base l:List Zn} {p:Int} {u:Bool} :(cJ base l p u).1.length=base.length:=by
 rw [cJ]
 repeat(first | (cases(bF l)<;> simp only [zV,Bool.not_false,cond_true,cond_false])| (cases(decide (p<0)||decide ((l.length:Int)<=p))<;> simp only [cond_true,cond_false])|rfl)
 cases dO l u (p+1).toNat <;> simp
inductive aOC(base l:List Zn)(f:Int):List Zn×Int->Prop
 |range (h:∀z∈l,¬(z.first<=f/\f<z.first+z.size)):aOC base l f (base,2)
 |free (i:Nat) (hi:i<l.length) (hf:l[i].first<=f/\f<l[i].first+l[i].size) (hm:f∈l[i].free):aOC base l f (base,5)
 |ok (i:Nat) (hi:i<l.length) (hf:l[i].first<=f/\f<l[i].first+l[i].size) (hm:f∉l[i].free):aOC base l f (base.set i (aK8 l[i] f),0)
theorem aYG {z:Zn} {f g:Int} (h:RZ g z)(hg:1<=g):inG f z=true↔z.first<=f/\f<z.first+z.size:=by
 have h1:=h.first;have h2:=h.stop;have h3:=h.size
 rw [inG,jH,aR (by omega) (by omega)]
 by_cases e:z.first<=f
 ·simp [e]
 ·simp [e]
theorem aCZ {base l:List Zn} {f:Int} (h:bF l=true):aOC base l f (eG base l f):=by
 have hc:=(eH l).1 h
 have hin:∀i (hi:i<l.length),inG f l[i]=true↔l[i].first<=f/\f<l[i].first+l[i].size:=λi hi=>by
  obtain⟨g1,g2⟩:=hc.1.get i hi
  exact aYG g1 g2
 rw [eG,h,zV,cond_false]
 by_cases hr:dR (inG f) l<0
 ·rw [show decide (dR (inG f) l<0)=true by simpa using hr,cond_true]
  refine .range λz hz=>?_
  obtain⟨i,hi,rfl⟩:=zC hz
  rw [<-hin i hi,(sC _ _).1 hr _ (zI hi)]
  simp
 ·rw [show decide (dR (inG f) l<0)=false by simpa using hr,cond_false]
  obtain⟨i,hi,e,h1,-⟩:=oY (inG f) l (by omega)
  rw [e,zL,uJ l i hi]
  obtain⟨g1,g2⟩:=hc.1.get i hi
  cases hm:aAS l[i].free f with
  |true=>exact .free i hi ((hin i hi).1 h1) ((aHS g1.free.asc f).1 hm)
  |false=>
   refine .ok i hi ((hin i hi).1 h1) λhx=>?_
   rw [(aHS g1.free.asc f).2 hx] at hm;cases hm
theorem aKB {base l:List Zn} {f:Int} (hs:gX base l)(h:bF l=true):bF (eG base l f).1=true:=by
 have hc:=(eH l).1 h
 have key:=aCZ (base:=base) (f:=f) h
 generalize eG base l f=q at key
 cases key with
 |range _=>rw [hs.check];exact h
 |free _ _ _ _=>rw [hs.check];exact h
 |ok i hi hf hm=>exact hs.set_check h i hi ((hc.1.get i hi).1.gave hf hm) rfl
theorem aZX(a b:Int):jT a b (mM a b):=by
 refine⟨?_,λx hx=>(aKR a b x).1 hx⟩
 rw [mM,List.pairwise_map]
 refine List.Pairwise.imp (λh=>?_) List.pairwise_lt_range
 omega
theorem aHH {n k:Int} (h0:0<=n)(h1:n<=64)(hk:1<=k):rU n k=n/k/\0<=rU n k/\rU n k<=n:=by
 have e:n.tdiv k=n/k:=Int.tdiv_eq_ediv_of_nonneg h0
 have a:=Int.ediv_nonneg h0 (show 0<=k by omega)
 have b:=Int.ediv_le_self k h0
 rw [rU,e,aR (by omega) (by omega)]
 omega
theorem aRJ {f n:Int} (hf:1<=f/\f<=65)(h:aCK f n=false):RZ f (mkZ f n):=by
 obtain⟨a1,a2,a3,a4⟩:=sY hf h
 have d8:=aHH (n:=n) (k:=8) (by omega) a2 (by decide)
 have d4:=aHH (n:=n) (k:=4) (by omega) a2 (by decide)
 have d2:=aHH (n:=n) (k:=2) (by omega) a2 (by decide)
 exact⟨rfl,⟨a1,a2⟩,a3,⟨d8.2.1,by show rU n 8<=rU n 4;rw [d8.1,d4.1];omega,by show rU n 4<=rU n 2;rw [d4.1,d2.1];omega,d2.2.2⟩,aZX _ _⟩
theorem aP7:∀(s:List Int) (f:Int) (l:List Zn),1<=f/\f<=65->newR f s=some l->tQ f l/\l.length=s.length
 | [],f,l,_,h=>by obtain rfl: []=l:=Option.some.inj h;exact⟨trivial,rfl⟩
 |n::r,f,l,hf,h=>by
  rw [newR] at h
  cases hb:aCK f n with
  |true=>rw [hb] at h;cases h
  |false=>
   rw [hb,cond_false,Option.map_eq_some_iff] at h
   obtain⟨l',h1,rfl⟩:=h
   have a:=sY hf hb
   obtain⟨h2,h3⟩:=aP7 r (f+n) l' (by omega) h1
   exact⟨⟨aRJ hf hb,h2⟩,by simp [h3]⟩
theorem aYT {s:List Int} (h:(newF s).2=0):bF (newF s).1=true/\(newF s).1.length=s.length/\newR 1 s=some (newF s).1:=by
 rw [newF] at h⊢
 cases hs:((s.length:Int)==0) with
 |true=>rw [hs] at h;cases h
 |false=>
  rw [hs] at h
  cases hn:newR 1 s with
  |none=>rw [hn] at h;cases h
  |some l=>
   obtain⟨h1,h2⟩:=aP7 s 1 l (by decide) hn
   refine⟨(eH l).2 ⟨h1,?_⟩,h2,rfl⟩
   rintro rfl
   simp only [List.length_nil] at h2
   simp [<-h2] at hs
end Go.Proofs.YtmhapcbjjpadnaaGreat
