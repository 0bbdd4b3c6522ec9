/- Caches. -/
import Derived.Test.YtmhapcbjjpadnaaGreatG3
set_option linter.unusedSimpArgs false
set_option linter.unusedVariables false
open Bool renaming not_eq_true'→zD,cond_false_right→zE,cond_true_left→zF,not_eq_false'→zG,or_eq_false_iff→zJ,not_not→zK,and_eq_true→zM,not_true→zU
open Int renaming natCast_nonneg→zA,toNat_natCast→zL
open List renaming getElem_of_mem→zC,take_succ_eq_append_getElem→zH,getElem_mem→zI,drop_append_of_le_length→zN,length_append→zO,getElem?_eq_getElem→zP,getElem_cons_zero→zQ,getElem_cons_succ→zR,mem_of_mem_drop→zS,takeWhile_cons→zT,drop_sublist→zV,getElem_drop→zW,getElem?_map→zX,length_cons→zY,length_drop→zZ
set_option maxRecDepth 40000
namespace Go.Proofs.YtmhapcbjjpadnaaGreat
open Go Go.Sk Go.RowKit
theorem aGD:∀(l:List Int) (x:Int) (j:Nat),j<eJ l x→l.getD j 0<x
 | [],_,j,h=>by simp [eJ] at h
 |y::r,x,j,h=>by
  simp only [eJ,zT] at h
  split at h
  ·rename_i hy
   cases j with
   |zero=>simpa using hy
   |succ j=>simpa using aGD r x j (by simpa [eJ] using h)
  ·simp at h
theorem aGC:∀(l:List Int) (x:Int),eJ l x<l.length→x≤l.getD (eJ l x) 0
 | [],_,h=>by simp [eJ] at h
 |y::r,x,h=>by
  simp only [eJ,zT] at h⊢
  split
  ·rename_i hy
   rw [if_pos hy] at h
   simpa [eJ] using aGC r x (by simpa [eJ] using h)
  ·rename_i hy
   simpa using hy
theorem jM {l:List Int} (hs:l.Pairwise (·< ·))(i j:Nat)(hij:i<j)(hj:j<l.length):l.getD i 0<l.getD j 0:=by
 rw [←eY l i (by omega),←eY l j hj]
 exact List.pairwise_iff_getElem.1 hs i j (by omega) hj hij
theorem aSE {l:List Int} (hs:l.Pairwise (·< ·)) {x:Int} {k:Nat} (hk:k<l.length)(h:l.getD k 0=x):vW l x=true:=by
 have :eJ l x=k:=aL8 l x k (by omega) (fun j hj=>by rw [←h];exact jM hs j k hj hk) (fun j hj hj'=>by
  by_cases e:j=k
  ·rw [e,h];exact Int.le_refl _
  ·have :=jM hs k j (by omega) hj';omega)
 rw [vW,this,h,show decide (k<l.length)=true by simpa using hk]
 simp
theorem bBM {l:List Int} {x:Int} (h:∀k,k<l.length→l.getD k 0≠x):vW l x=false:=by
 rw [vW]
 by_cases e:eJ l x<l.length
 ·rw [show decide (eJ l x<l.length)=true by simpa using e]
  simpa using h _ e
 ·rw [show decide (eJ l x<l.length)=false by simpa using e];rfl
def nJ(l:List Int)(f:Int)(k:Nat):List Int:=if k≤eJ l f then l.take k else gG (l.take k) (eJ l f) f
theorem aI9(l:List Int)(f:Int)(k:Nat)(hk:k≤l.length):(nJ l f k).length≤k+1:=by
 unfold nJ
 split
 ·simp;omega
 ·rw [jZ];simp;omega
theorem aIA {l:List Int} {f:Int} (h:eJ l f<l.length):nJ l f (eJ l f)++ [f]++ [l.getD (eJ l f) 0]=nJ l f (eJ l f+1):=by
 rw [nJ,if_pos (Nat.le_refl _),nJ,if_neg (by omega),gG,←eY l _ h,List.take_take,Nat.min_eq_left (by omega),List.append_assoc]
 congr 1
 rw [zH h,zN (by simp;omega),List.drop_of_length_le (by simp;omega)]
 rfl
theorem aEN {l:List Int} {f:Int} {k:Nat} (hk:k<l.length)(h:k≠eJ l f):nJ l f k++ [l.getD k 0]=nJ l f (k+1):=by
 rw [←eY l k hk]
 unfold nJ
 by_cases e:k≤eJ l f
 ·rw [if_pos e,if_pos (by omega),zH hk]
 ·rw [if_neg e,if_neg (by omega),gG,gG,zH hk,List.take_append_of_le_length (by simp;omega),zN (by simp;omega)]
  simp
theorem aI8(l:List Int)(f:Int):(if eJ l f<l.length then nJ l f l.length else nJ l f l.length++ [f])=gG l (eJ l f) f:=by
 have :=sZ l f
 unfold nJ
 split
 ·rw [if_neg (by omega),List.take_length]
 ·have e:eJ l f=l.length:=by omega
  rw [if_pos (by omega),e,gG];simp
theorem dN(L:List Int)(k:Nat)(h:k<L.length):(aE L).getD ((k:Int)).toNat []=[.int .i64 (L.getD k 0)]:=by
 rw [zL,bJ L k h,eY L k h]
set_option maxRecDepth 20000 in
set_option maxHeartbeats 16000000 in
theorem bG2(l:List Zn)(t:Bool)(f:Int)(hl:eI l):aN Tryz.prog 251 [] [.lst 6 t (aP l),.int .i64 f] (.tup [.lst 6 false (aP (dW l l f).1),.int .i64 (dW l l f).2]) []:=by
 have hlen:=hl.len
 refine aF (ob0:= []) [.c 63,.c 77,.r 82] Tryz.func251 rfl rfl rfl rfl ?_
 generalize hk:dW l l f=q
 refine cC (aTH l t hl) ?_
 refine aC (fun h1=>?_) (fun h1=>?_)<;> try simp only [zF,zE,zD,zG,zK] at h1
 ·have h1:(!bB l)=true:=by rw [h1];rfl
  simp only [dW,h1,cond_true] at hk
  subst hk
  refine Wk ?_
  try subst hk
  exact Lf
 have h1':bB l=true:=by simpa using h1
 have h1:(!bB l)=false:=by rw [h1'];rfl
 have hg:=oL h1'
 simp only [dW,h1,cond_false] at hk
 refine Wk ?_
 refine⟨Nat,fun i=>i≤l.length∧∀j (hj:j<l.length),j<i→inG f l[j]=false,fun i=>⟨[(0,⟨[],true,.lst 6 t (aP l)⟩),(1,⟨[],true,.int .i64 f⟩),(6,⟨[],true,.int .i64 (i:Int)⟩)],[],0⟩,fun i=>l.length-i,⟨0,⟨by omega,fun j hj h=>by omega⟩,?_⟩,fun i hI=>?_⟩
 ·exact Vw []
 obtain⟨hI1,hI2⟩:=hI
 refine Wk ?_
 rw [aG]
 refine aC (fun h3=>?_) (fun h3=>?_)<;> try simp only [zF,zE,zD,zG,zK] at h3
 ·have h3:i<l.length:=by simp at h3;omega
  have hgn:=hg l[i] (zI h3)
  have hfn:=hl.free l[i] (zI h3)
  have hpw:=vL _ _ _ hgn.asc
  refine Wk ?_
  first |refine aB (⟨rfl,by omega,by rw [aG];omega⟩) ?_ |refine aH (fun _=>⟨rfl,by omega,by rw [aG];omega⟩) ?_ |refine⟨fun _=>⟨rfl,by omega,by rw [aG];omega⟩,?_⟩
  rw [zL,dZ l i h3]
  refine Wk ?_
  refine aC (fun h4=>?_) (fun h4=>?_)<;> try simp only [zF,zE,zD,zG,zK] at h4
  ·have h4:inG f l[i]=false:=by
    have e:=hgn.stop;have e1:=hgn.first;have e2:=hgn.size
    rw [inG,iT]
    rw [aO (by omega) (by omega)] at h4⊢
    simp at h4⊢
    omega
   refine Wk ?_
   rw [aO (n:=(i:Int)+1) (by omega) (by omega),show((i:Int)+1)=((i+1:Nat):Int) by omega]
   refine⟨i+1,⟨by show i+1≤_;omega,fun j hj hj'=>?_⟩,?_,by show l.length- (i+1)<l.length-i;omega⟩
   ·have hj':j<i+1:=hj'
    by_cases e:j=i
    ·subst e;exact h4
    ·exact hI2 j hj (by omega)
   exact Vw []
  have h4:inG f l[i]=true:=by
   have e:=hgn.stop;have e1:=hgn.first;have e2:=hgn.size
   rw [inG,iT]
   rw [aO (by omega) (by omega)] at h4⊢
   simp at h4⊢
   omega
  have hix:dI (inG f) l=i:=oX _ _ i h3 (fun j hj=>hI2 j (by omega) hj) h4
  rw [hix] at hk
  rw [show decide (((i:Nat):Int)<0)=false by simp,cond_false,zL,tI l i h3] at hk
  generalize hz:l[i]=z at hgn hfn hpw h4 hk
  have hpl:=sZ z.free f
  refine Wk ?_
  refine⟨Nat×List Int,fun y=>(y.1≤z.free.length∧∀j,j<y.1→z.free.getD j 0≠f)∧y.2=nJ z.free f y.1,fun y=>⟨[(0,⟨[],true,.lst 6 t (aP l)⟩),(1,⟨[],true,.int .i64 f⟩),(6,⟨[],true,.int .i64 (i:Int)⟩),(7,⟨[],true,.ptr 0 0 0⟩),(8,⟨[],true,.sl 1 0 y.2.length⟩),(9,⟨[],true,.bool (decide (eJ z.free f<y.1))⟩),(10,⟨[],true,.int .i64 (y.1:Int)⟩)],
   [(0,.box [.int .i64 z.first,.int .i64 z.size,.int .i64 z.min,.int .i64 z.low,.int .i64 z.high,.lst 1 z.ex (aE z.free)]),(1,.row 1 (aE y.2))],2⟩,fun y=>z.free.length-y.1,⟨(0,[]),⟨⟨by simp,fun j hj=>by simp at hj⟩,by show []=nJ z.free f 0;rw [nJ,if_pos (by omega),List.take_zero]⟩,?_⟩,fun y hk'=>?_⟩
  ·exact Vw [some 0,none]
  obtain⟨k,acc⟩:=y
  obtain⟨⟨hk1,hk2⟩,hacc⟩:=hk'
  simp only at hk1 hk2 hacc
  have hal:=aI9 z.free f k hk1
  refine Wk ?_
  rw [aA]
  refine aC (fun h5=>?_) (fun h5=>?_)<;> try simp only [zF,zE,zD,zG,zK] at h5
  ·have h5:k<z.free.length:=by simp at h5;omega
   refine Wk ?_
   have hb:(k:Int)< ((aE z.free).length:Int):=by rw [aA];exact Int.ofNat_lt.2 h5
   first |refine aB (⟨rfl,zA k,hb⟩) ?_ |refine aH (fun _=>⟨rfl,zA k,hb⟩) ?_ |refine⟨fun _=>⟨rfl,zA k,hb⟩,?_⟩
   rw [dN z.free k h5]
   refine Wk ?_
   refine aC (fun h6=>?_) (fun h6=>?_)<;> try simp only [zF,zE,zD,zG,zK] at h6
   ·have h6:z.free.getD k 0=f:=by simpa using h6
    rw [aSE hpw h5 h6,cond_true] at hk
    subst hk
    refine Wk ?_
    try subst hk
    exact Lf
   have h6:z.free.getD k 0≠f:=by simpa using h6
   refine Wk ?_
   generalize hm:(bif decide (eJ z.free f=k) then acc++ [f] else acc)=mid
   refine⟨Unit,fun _=>True,fun _=>⟨[(0,⟨[],true,.lst 6 t (aP l)⟩),(1,⟨[],true,.int .i64 f⟩),(6,⟨[],true,.int .i64 (i:Int)⟩),(7,⟨[],true,.ptr 0 0 0⟩),(8,⟨[],true,.sl 1 0 mid.length⟩),(9,⟨[],true,.bool (decide (eJ z.free f<k+1))⟩),(10,⟨[],true,.int .i64 (k:Int)⟩)],
    [(0,.box [.int .i64 z.first,.int .i64 z.size,.int .i64 z.min,.int .i64 z.low,.int .i64 z.high,.lst 1 z.ex (aE z.free)]),(1,.row 1 (aE mid))],2⟩,?_,fun _ _=>?_⟩
   ·refine Wk ?_
    first |refine aB (⟨rfl,zA k,hb⟩) ?_ |refine aH (fun _=>⟨rfl,zA k,hb⟩) ?_ |refine⟨fun _=>⟨rfl,zA k,hb⟩,?_⟩
    rw [dN z.free k h5]
    refine Wk ?_
    refine aC (fun h7=>?_) (fun h7=>?_)<;> try simp only [zF,zE,zD,zG,zK] at h7
    ·have h7:(!decide (eJ z.free f<k)&&decide (f<z.free.getD k 0))=true:=by simpa using h7
     have e7:eJ z.free f=k:=by
      simp only [zM,zD,decide_eq_false_iff_not,decide_eq_true_eq] at h7
      have :=fun h=>aGD z.free f k h
      omega
     have hm:acc++ [f]=mid:=by rw [←hm,show decide (eJ z.free f=k)=true by simpa using e7];rfl
     subst hm
     refine Wk ?_
     first |refine aB ((aA acc).symm) (bA (by show(((aE acc).length+1:Nat):Int)≤_;rw [aA,hacc];omega) (by show((aE acc).length+1)*8≤_;rw [aA,hacc];omega) ?_)|refine aB ⟨(aA acc).symm,by show(((aE acc).length+1:Nat):Int)≤_;rw [aA,hacc];omega,by show((aE acc).length+1)*8≤_;rw [aA,hacc];omega⟩ ?_ |refine⟨(aA acc).symm,by show(((aE acc).length+1:Nat):Int)≤_;rw [aA,hacc];omega,by show((aE acc).length+1)*8≤_;rw [aA,hacc];omega,?_⟩
     refine Wk ?_
     refine⟨(),trivial,?_⟩
     refine bT [some 0,some ?k172_1] rfl rfl ?h3_172 ?h4_172 ?h5_172 ?h6_172 ?h7_172
     case' h7_172=>repeat' (first |exact trivial |rfl |exact .inl rfl |exact .inr rfl |exact id |exact(fun h=>Bool.noConfusion h)|refine And.intro ?_ ?_)
     case' h4_172=>rfl
     case' h6_172=>rfl
     case' h3_172=>repeat' (first |exact trivial |rfl |exact .inl rfl |exact .inr rfl |exact id |exact(fun h=>Bool.noConfusion h)|refine And.intro ?_ ?_)
     case' h5_172=>repeat' (first |exact trivial |rfl |exact .inl rfl |exact .inr rfl |exact id |exact(fun h=>Bool.noConfusion h)|refine And.intro ?_ ?_)
     ·exact fK acc f
     ·show(aE acc).length+1=_
      rw [aA,zO];rfl
     ·show true=decide (eJ z.free f<k+1)
      simp;omega
    have h7:(!decide (eJ z.free f<k)&&decide (f<z.free.getD k 0))=false:=by simpa using h7
    have e7:eJ z.free f≠k:=by
     intro e
     have :=aGC z.free f (by omega)
     rw [e] at this
     rw [e,show decide (k<k)=false by simp,Bool.not_false,Bool.true_and,decide_eq_false_iff_not] at h7
     omega
    have hm:acc=mid:=by rw [←hm,show decide (eJ z.free f=k)=false by simpa using e7];rfl
    subst hm
    refine Wk ?_
    refine⟨(),trivial,?_⟩
    refine bT [some 0,some 1] rfl rfl ?_ rfl ?_ rfl ?_
    repeat' (first |exact trivial |rfl |exact .inl rfl |exact .inr rfl |exact id |exact(fun h=>Bool.noConfusion h)|refine And.intro ?_ ?_)
    exact decide_eq_decide.2 (by show eJ z.free f<k↔eJ z.free f<k+1;omega)
   refine Wk ?_
   have hml:mid.length≤k+2:=by
    rw [←hm]
    cases decide (eJ z.free f=k) with
    |true=>show(acc++ [f]).length≤_;rw [hacc];have :=hal;simp;omega
    |false=>show acc.length≤_;rw [hacc];omega
   first |refine aB (⟨rfl,zA k,hb⟩) ?_ |refine aH (fun _=>⟨rfl,zA k,hb⟩) ?_ |refine⟨fun _=>⟨rfl,zA k,hb⟩,?_⟩
   rw [dN z.free k h5]
   refine Wk ?_
   first |refine aB ((aA mid).symm) (bA (by show(((aE mid).length+1:Nat):Int)≤_;rw [aA];omega) (by show((aE mid).length+1)*8≤_;rw [aA];omega) ?_)|refine aB ⟨(aA mid).symm,by show(((aE mid).length+1:Nat):Int)≤_;rw [aA];omega,by show((aE mid).length+1)*8≤_;rw [aA];omega⟩ ?_ |refine⟨(aA mid).symm,by show(((aE mid).length+1:Nat):Int)≤_;rw [aA];omega,by show((aE mid).length+1)*8≤_;rw [aA];omega,?_⟩
   refine Wk ?_
   rw [aO (n:=(k:Int)+1) (by omega) (by omega),show((k:Int)+1)=((k+1:Nat):Int) by omega]
   have hnext:mid++ [z.free.getD k 0]=nJ z.free f (k+1):=by
    by_cases e:eJ z.free f=k
    ·rw [←hm,show decide (eJ z.free f=k)=true by simpa using e,cond_true,hacc,←e]
     exact aIA (by omega)
    ·rw [←hm,show decide (eJ z.free f=k)=false by simpa using e,cond_false,hacc]
     exact aEN h5 (fun h=>e h.symm)
   refine⟨(k+1,mid++ [z.free.getD k 0]),⟨⟨by show k+1≤_;omega,fun j hj=>?_⟩,hnext⟩,?_,by show z.free.length- (k+1)<z.free.length-k;omega⟩
   ·have hj:j<k+1:=hj
    by_cases e:j=k
    ·rw [e];exact h6
    ·exact hk2 j (by omega)
   refine bT [some 0,some ?k220_1] rfl rfl ?h3_220 ?h4_220 ?h5_220 ?h6_220 ?h7_220
   case' h7_220=>repeat' (first |exact trivial |rfl |exact .inl rfl |exact .inr rfl |exact id |exact(fun h=>Bool.noConfusion h)|refine And.intro ?_ ?_)
   case' h4_220=>rfl
   case' h6_220=>rfl
   case' h3_220=>repeat' (first |exact trivial |rfl |exact .inl rfl |exact .inr rfl |exact id |exact(fun h=>Bool.noConfusion h)|refine And.intro ?_ ?_)
   case' h5_220=>repeat' (first |exact trivial |rfl |exact .inl rfl |exact .inr rfl |exact id |exact(fun h=>Bool.noConfusion h)|refine And.intro ?_ ?_)
   ·exact fK mid _
   ·show(aE mid).length+1=_
    rw [aA,zO];rfl
  have h5:k=z.free.length:=by simp at h5;omega
  subst h5
  rw [bBM hk2,cond_false] at hk
  refine Wk ?_
  generalize hr:gG z.free (eJ z.free f) f=res
  have hrl:res.length=z.free.length+1:=by rw [←hr,jZ]
  have hend:=aI8 z.free f
  rw [←hacc,hr] at hend
  refine⟨Unit,fun _=>True,fun _=>⟨[(0,⟨[],true,.lst 6 t (aP l)⟩),(6,⟨[],true,.int .i64 (i:Int)⟩),(7,⟨[],true,.ptr 0 0 0⟩),(8,⟨[],true,.sl 1 0 res.length⟩)],
   [(0,.box [.int .i64 z.first,.int .i64 z.size,.int .i64 z.min,.int .i64 z.low,.int .i64 z.high,.lst 1 z.ex (aE z.free)]),(1,.row 1 (aE res))],2⟩,?_,fun _ _=>?_⟩
  ·refine Wk ?_
   refine aC (fun h7=>?_) (fun h7=>?_)<;> try simp only [zF,zE,zD,zG,zK] at h7
   ·have h7:decide (eJ z.free f<z.free.length)=false:=h7
    have hend:acc++ [f]=res:=by rw [←hend,if_neg (by simpa using h7)]
    subst hend
    refine Wk ?_
    first |refine aB ((aA acc).symm) (bA (by show(((aE acc).length+1:Nat):Int)≤_;rw [aA];simp at hrl;omega) (by show((aE acc).length+1)*8≤_;rw [aA];simp at hrl;omega) ?_)|refine aB ⟨(aA acc).symm,by show(((aE acc).length+1:Nat):Int)≤_;rw [aA];simp at hrl;omega,by show((aE acc).length+1)*8≤_;rw [aA];simp at hrl;omega⟩ ?_ |refine⟨(aA acc).symm,by show(((aE acc).length+1:Nat):Int)≤_;rw [aA];simp at hrl;omega,by show((aE acc).length+1)*8≤_;rw [aA];simp at hrl;omega,?_⟩
    refine Wk ?_
    refine⟨(),trivial,?_⟩
    refine bT [some 0,some ?k248_1] rfl rfl ?h3_248 ?h4_248 ?h5_248 ?h6_248 ?h7_248
    case' h7_248=>repeat' (first |exact trivial |rfl |exact .inl rfl |exact .inr rfl |exact id |exact(fun h=>Bool.noConfusion h)|refine And.intro ?_ ?_)
    case' h4_248=>rfl
    case' h6_248=>rfl
    case' h3_248=>repeat' (first |exact trivial |rfl |exact .inl rfl |exact .inr rfl |exact id |exact(fun h=>Bool.noConfusion h)|refine And.intro ?_ ?_)
    case' h5_248=>repeat' (first |exact trivial |rfl |exact .inl rfl |exact .inr rfl |exact id |exact(fun h=>Bool.noConfusion h)|refine And.intro ?_ ?_)
    ·exact fK acc f
    ·show(aE acc).length+1=_
     rw [aA,zO];rfl
   have h7:decide (eJ z.free f<z.free.length)=true:=h7
   have hend:acc=res:=by rw [←hend,if_pos (by simpa using h7)]
   subst hend
   refine Wk ?_
   refine⟨(),trivial,?_⟩
   exact Vw [some 0,some 1]
  refine Wk ?_
  refine⟨Unit,fun _=>True,fun _=>⟨[(0,⟨[],true,.lst 6 t (aP l)⟩),(6,⟨[],true,.int .i64 (i:Int)⟩),(7,⟨[],true,.ptr 0 0 0⟩)],[(0,.box (Zn.c ⟨z.first,z.size,z.min,z.low,z.high,res,false⟩))],1⟩,?_,fun _ _=>?_⟩
  ·refine Wk ?_
   refine⟨(),trivial,?_⟩
   refine bT [some 0] rfl rfl ?_ rfl ?_ rfl ?_
   repeat' (first |exact trivial |rfl |exact .inl rfl |exact .inr rfl |exact id |exact(fun h=>Bool.noConfusion h)|refine And.intro ?_ ?_)
   ·show 0+res.length≤_
    rw [aA];omega
   ·exact cV (aA _)
  refine cC (aZH l t i ⟨z.first,z.size,z.min,z.low,z.high,res,false⟩ h3 hlen) ?_
  subst hk
  refine⟨[],trivial,rfl,trivial,rfl,?_⟩
  try subst hk
  repeat' (first |exact trivial |rfl |exact .inl rfl |exact .inr rfl |exact id |exact(fun h=>Bool.noConfusion h)|refine And.intro ?_ ?_)
  rw [←hr];rfl
 have h3:i=l.length:=by simp at h3;omega
 subst h3
 have hnone:dI (inG f) l= -1:=jI _ _ fun z hz=>by
  obtain⟨j,hj,rfl⟩:=zC hz
  exact hI2 j hj hj
 rw [hnone] at hk
 have hk:(l,(2:Int))=q:=hk
 subst hk
 refine Wk ?_
 try subst hk
 exact Lf
end Go.Proofs.YtmhapcbjjpadnaaGreat
set_option maxRecDepth 40000
namespace Go.Proofs.YtmhapcbjjpadnaaGreat
open Go Go.Sk Go.RowKit
structure jG(lo hi:Int)(l:List Int):Prop where
 asc:l.Pairwise (·< ·)
 inn:∀x∈l,lo≤x∧x<hi
theorem aIF(lo hi:Int)(l:List Int):sM lo hi l l.length=true↔jG lo hi l:=by
 constructor
 ·intro h
  refine⟨vL lo hi l h,fun x hx=>?_⟩
  obtain⟨i,hi',rfl⟩:=zC hx
  have :=rR lo hi l l.length i hi' h
  simp only [jS,zJ,decide_eq_false_iff_not] at this
  rw [eY l i hi']
  omega
 ·intro h
  have :∀n,n≤l.length→sM lo hi l n=true:=by
   intro n
   induction n with
   |zero=>intro _;rfl
   |succ n ih=>
    intro hn
    have hlt:n<l.length:=by omega
    simp only [sM,zM,zD,ih (by omega),true_and]
    have hin:=h.inn l[n] (zI hlt)
    rw [eY l n hlt] at hin
    have h3:(decide (0< (n:Int))&&decide (l.getD n 0≤l.getD (n-1) 0))=false:=by
     by_cases e:n=0
     ·simp [e]
     ·have :=jM h.asc (n-1) n (by omega) hlt
      rw [show decide (l.getD n 0≤l.getD (n-1) 0)=false from by simp only [decide_eq_false_iff_not];omega,Bool.and_false]
    simp only [jS,zJ,decide_eq_false_iff_not,h3,and_true]
    omega
  exact this _ (Nat.le_refl _)
theorem jG.len:∀ {l:List Int} {lo hi:Int},jG lo hi l→lo≤hi→(l.length:Int)≤hi-lo
 | [],_,_,_,h=>by simp;omega
 |x::r,lo,hi,h,_=>by
  have hx:=h.inn x (by simp)
  have hp:=List.pairwise_cons.1 h.asc
  have :=jG.len (l:=r) (lo:=x+1) (hi:=hi) ⟨hp.2,fun y hy=>⟨by have :=hp.1 y hy;omega,(h.inn y (by simp [hy])).2⟩⟩ (by omega)
  simp only [zY]
  omega
theorem jG.drop {lo hi:Int} {l:List Int} (h:jG lo hi l)(n:Nat):jG lo hi (l.drop n):=
 ⟨h.asc.sublist (zV n l),fun x hx=>h.inn x (zS hx)⟩
theorem aDH {l:List Int} {i:Nat} {x y:Int} :y∈gG l i x↔y=x∨y∈l:=by
 rw [gG,List.mem_append,List.mem_cons]
 constructor
 ·rintro (h |h |h)
  ·exact .inr (List.mem_of_mem_take h)
  ·exact .inl h
  ·exact .inr (zS h)
 ·rintro (h |h)
  ·exact .inr (.inl h)
  ·rw [←List.take_append_drop i l,List.mem_append] at h
   rcases h with h |h
   ·exact .inl h
   ·exact .inr (.inr h)
theorem aGT {l:List Int} (hs:l.Pairwise (·< ·))(x:Int):vW l x=true↔x∈l:=by
 constructor
 ·intro h
  rw [vW] at h
  by_cases e:eJ l x<l.length
  ·rw [show decide (eJ l x<l.length)=true by simpa using e,cond_true] at h
   have :l.getD (eJ l x) 0=x:=by simpa using h
   rw [←this,←eY l _ e]
   exact zI e
  ·rw [show decide (eJ l x<l.length)=false by simpa using e] at h;cases h
 ·intro h
  obtain⟨i,hi,rfl⟩:=zC h
  exact aSE hs hi (eY l i hi).symm
theorem jG.ins {lo hi:Int} {l:List Int} (h:jG lo hi l) {f:Int} (hf:lo≤f∧f<hi)(hn:f∉l):jG lo hi (gG l (eJ l f) f):=by
 refine⟨?_,fun x hx=>?_⟩
 ·have hle:=sZ l f
  rw [gG,List.pairwise_append]
  refine⟨h.asc.sublist (List.take_sublist _ l),List.pairwise_cons.2 ⟨fun y hy=>?_,h.asc.sublist (zV _ l)⟩,fun a ha b hb=>?_⟩
  ·obtain⟨j,hj,rfl⟩:=zC hy
   rw [zZ] at hj
   rw [zW,eY l _ (by omega)]
   have hlt:eJ l f<l.length:=by omega
   have h1:=aGC l f hlt
   have h2:l.getD (eJ l f+j) 0≠f:=fun e=>hn (by rw [←e,←eY l _ (by omega)];exact zI _)
   by_cases e:j=0
   ·subst e;rw [Nat.add_zero] at h2⊢;omega
   ·have :=jM h.asc (eJ l f) (eJ l f+j) (by omega) (by omega);omega
  ·obtain⟨j,hj,rfl⟩:=zC ha
   rw [List.length_take] at hj
   have hlt:l[j]'(by omega)<f:=by rw [eY l j (by omega)];exact aGD l f j (by omega)
   rw [List.getElem_take]
   rcases List.mem_cons.1 hb with rfl |hb
   ·exact hlt
   ·obtain⟨k,hk,rfl⟩:=zC hb
    rw [zZ] at hk
    rw [zW,eY l j (by omega),eY l _ (by omega)]
    exact jM h.asc _ _ (by omega) (by omega)
 ·rcases aDH.1 hx with rfl |hx
  ·exact hf
  ·exact h.inn x hx
structure RZ(f:Int)(z:Zn):Prop where
 first :z.first=f
 size:1≤z.size∧z.size≤64
 stop:f+z.size≤65
 marks:0≤z.min∧z.min≤z.low∧z.low≤z.high∧z.high≤z.size
 free:jG f (f+z.size) z.free
theorem aAH {z:Zn} {f:Int} (hf:1≤f∧f≤65):iH z f=true↔RZ f z:=by
 constructor
 ·intro h
  obtain⟨g,h1,h2⟩:=pL hf h
  have g2:=g.stop
  rw [h1] at g2
  refine⟨h1,g.size,g2,g.marks,?_⟩
  have :=(aIF _ _ _).1 g.asc
  rwa [h1] at this
 ·intro h
  have h1:=h.first
  have h2:=h.size
  have h3:=h.stop
  have h4:=h.marks
  have he:iT z=f+z.size:=by rw [iT,aO (by omega) (by omega)];omega
  have a1:iC z f=false:=by
   simp only [iC,zJ,decide_eq_false_iff_not,bne_eq_false_iff_eq];omega
  have a2:iY z=false:=by
   simp only [iY,zJ,decide_eq_false_iff_not];omega
  rw [iH,a1,a2,cond_false,cond_false,he,h1]
  exact(aIF _ _ _).2 h.free
def sJ:Int→List Zn→Prop
 |_,[]=>True
 |f,z::r=>RZ f z∧sJ (f+z.size) r
theorem aGG:∀(l:List Zn) (f:Int),1≤f∧f≤65→(tG f l=true↔sJ f l)
 | [],_,_=>by simp [tG,sJ]
 |z::r,f,hf=>by
  simp only [tG,sJ,zM]
  rw [aAH hf]
  constructor
  ·rintro ⟨h1,h2⟩
   have e:=(pL hf ((aAH hf).2 h1)).2.2
   have :=h1.size;have :=h1.stop
   rw [e] at h2
   exact⟨h1,(aGG r _ (by omega)).1 h2⟩
  ·rintro ⟨h1,h2⟩
   have e:=(pL hf ((aAH hf).2 h1)).2.2
   have :=h1.size;have :=h1.stop
   rw [e]
   exact⟨h1,(aGG r _ (by omega)).2 h2⟩
theorem dX(l:List Zn):bB l=true↔sJ 1 l∧l≠ []:=by
 rw [bB,zM,aGG l 1 (by decide)]
 refine and_congr Iff.rfl ?_
 cases l <;> simp
theorem sJ.len:∀ {l:List Zn} {f:Int},sJ f l→f≤65→f+l.length≤65
 | [],f,_,h=>by simpa using h
 |z::r,f,h,_=>by
  have :=h.1.size;have :=h.1.stop
  have :=sJ.len h.2 (by omega)
  simp only [zY];omega
theorem sJ.get:∀ {l:List Zn} {f:Int},sJ f l→∀(i:Nat) (h:i<l.length),RZ l[i].first l[i]∧f≤l[i].first
 |z::r,f,h,0,_=>by simp only [zQ];rw [h.1.first];exact⟨h.1,Int.le_refl _⟩
 |z::r,f,h,i+1,hi=>by
  have a1:=sJ.get h.2 i (by simpa using hi)
  have a2:=h.1.size
  simp only [zR]
  exact⟨a1.1,by omega⟩
theorem sJ.set:∀ {l:List Zn} {f:Int},sJ f l→∀(i:Nat) (h:i<l.length) (z:Zn),RZ l[i].first z→z.size=l[i].size→sJ f (l.set i z)
 |y::r,f,h,0,_,z,hz,hs=>by
  simp only [zQ] at hz hs
  rw [h.1.first] at hz
  simp only [List.set_cons_zero,sJ]
  rw [hs]
  exact⟨hz,h.2⟩
 |y::r,f,h,i+1,hi,z,hz,hs=>by
  simp only [zR] at hz hs
  simp only [List.set_cons_succ,sJ]
  exact⟨h.1,sJ.set h.2 i (by simpa using hi) z hz hs⟩
theorem lX {l:List Zn} (h:bB l=true):eI l:=by
 have hc:=(dX l).1 h
 refine⟨by have :=hc.1.len (by decide);omega,fun z hz=>?_⟩
 obtain⟨i,hi,rfl⟩:=zC hz
 obtain⟨g,-⟩:=hc.1.get i hi
 have :=g.free.len (by have :=g.size;omega)
 have :=g.size
 omega
theorem vN {l:List Zn} (h:bB l=true):1≤l.length∧l.length≤64:=by
 have hc:=(dX l).1 h
 have :=hc.1.len (by decide)
 have :=List.length_pos_iff.2 hc.2
 omega
theorem RZ.ex {f:Int} {z:Zn} :RZ f (gU z)↔RZ f z:=⟨fun h=>⟨h.1,h.2,h.3,h.4,h.5⟩,fun h=>⟨h.1,h.2,h.3,h.4,h.5⟩⟩
theorem sJ.ex:∀ {l:List Zn} {f:Int},sJ f (l.map gU)↔sJ f l
 | [],_=>Iff.rfl
 |z::r,f=>and_congr RZ.ex (sJ.ex (l:=r))
theorem aIL(l:List Zn):bB (l.map gU)=bB l:=by
 rw [Bool.eq_iff_iff,dX,dX,sJ.ex]
 simp
def fV(a b:List Zn):Prop:=a.map gU=b.map gU
theorem fV.refl(a:List Zn):fV a a:=rfl
theorem fV.ex(a:List Zn):fV (a.map gU) a:=by rw [fV,List.map_map];rfl
theorem fV.trans {a b c:List Zn} (h:fV a b)(k:fV b c):fV a c:=Eq.trans h k
theorem fV.len {a b:List Zn} (h:fV a b):a.length=b.length:=by have :=congrArg List.length h;simpa using this
theorem fV.check {a b:List Zn} (h:fV a b):bB a=bB b:=by rw [←aIL a,←aIL b,show a.map gU=b.map gU from h]
theorem fV.get {a b:List Zn} (h:fV a b)(i:Nat)(hi:i<a.length):gU a[i]=gU (b[i]'(by rw [←h.len];exact hi)):=by
 have h1:(a.map gU)[i]? =(b.map gU)[i]? :=by rw [show a.map gU=b.map gU from h]
 have hb:i<b.length:=by rw [←h.len];exact hi
 rw [zX,zX,zP hi,zP hb] at h1
 simpa using h1
theorem fV.set {a b:List Zn} (h:fV a b)(i:Nat) {x y:Zn} (e:gU x=gU y):fV (a.set i x) (b.set i y):=by
 rw [fV,List.map_set,List.map_set,e,show a.map gU=b.map gU from h]
theorem bB7(x y:Zn):eqZ x y=true↔gU x=gU y:=by
 rw [aWE]
 obtain⟨a1,a2,a3,a4,a5,a6,a7⟩:=x
 obtain⟨b1,b2,b3,b4,b5,b6,b7⟩:=y
 simp [gU]
theorem aQR {a b:List Zn} (h:fV a b):mK a b=true:=by
 rw [aFW]
 exact⟨h.len,fun i h1 h2=>(bB7 _ _).2 (h.get i h1)⟩
theorem aBE {l:List Zn} {u:Bool} :∀ {n i:Nat},cX l u n=some i→i<n∧lS u (l.getD i fQ)=true∧∀j,i<j→j<n→lS u (l.getD j fQ)=false
 |0,i,h=>by cases h
 |n+1,i,h=>by
  simp only [cX] at h
  cases hz:lS u (l.getD n fQ) with
  |true=>
   rw [hz] at h
   obtain rfl:n=i:=Option.some.inj h
   exact⟨by omega,hz,fun j h1 h2=>by omega⟩
  |false=>
   rw [hz] at h
   obtain⟨h1,h2,h3⟩:=aBE (n:=n) h
   refine⟨by omega,h2,fun j hj hj'=>?_⟩
   by_cases e:j=n
   ·rw [e];exact hz
   ·exact h3 j hj (by omega)
theorem aBD {l:List Zn} {u:Bool} :∀ {n:Nat},cX l u n=none→∀j,j<n→lS u (l.getD j fQ)=false
 |0,_,j,hj=>by omega
 |n+1,h,j,hj=>by
  simp only [cX] at h
  cases hz:lS u (l.getD n fQ) with
  |true=>rw [hz] at h;cases h
  |false=>
   rw [hz] at h
   by_cases e:j=n
   ·rw [e];exact hz
   ·exact aBD (n:=n) h j (by omega)
theorem RZ.taken {f:Int} {z:Zn} (h:RZ f z):RZ f (aE9 z):=⟨h.first,h.size,h.stop,h.marks,h.free.drop 1⟩
theorem RZ.gave {f:Int} {z:Zn} (h:RZ f z) {x:Int} (hx:f≤x∧x<f+z.size)(hn:x∉z.free):RZ f (aS7 z x):=⟨h.first,h.size,h.stop,h.marks,h.free.ins hx hn⟩
inductive aN0(base l:List Zn)(p:Int)(u:Bool):List Zn×Int×Int→Prop
 |range (h:p<0∨(l.length:Int)≤p):aN0 base l p u (base,0,2)
 |full (h0:0≤p) (h1:p<l.length) (h:∀j:Nat,(j:Int)≤p→lS u (l.getD j fQ)=false):aN0 base l p u (base,0,3)
 |ok (h0:0≤p) (h1:p<l.length) (i:Nat) (hi:i<l.length) (hp:(i:Int)≤p) (hz:lS u l[i]=true) (hn:∀j:Nat,i<j→(j:Int)≤p→lS u (l.getD j fQ)=false):
  aN0 base l p u (base.set i (aE9 l[i]),l[i].free.getD 0 0,0)
theorem aOR {base l:List Zn} {p:Int} {u:Bool} (h:bB l=true):aN0 base l p u (bX base l p u):=by
 rw [bX,h,zU,cond_false]
 by_cases hr:p<0∨(l.length:Int)≤p
 ·rw [show(decide (p<0)||decide ((l.length:Int)≤p))=true by simpa using hr,cond_true]
  exact .range hr
 ·rw [show(decide (p<0)||decide ((l.length:Int)≤p))=false by simpa using hr,cond_false]
  cases ht:cX l u (p+1).toNat with
  |none=>exact .full (by omega) (by omega) fun j hj=>aBD ht j (by omega)
  |some i=>
   obtain⟨h1,h2,h3⟩:=aBE ht
   have hi:i<l.length:=by omega
   rw [tI l i hi] at h2
   simp only [tI l i hi]
   exact .ok (by omega) (by omega) i hi (by omega) h2 fun j h4 h5=>h3 j h4 (by omega)
theorem fV.set_check {base l:List Zn} (hs:fV base l)(h:bB l=true)(i:Nat)(hi:i<l.length) {z:Zn} (hz:RZ l[i].first z)(hsz:z.size=l[i].size):bB (base.set i z)=true:=by
 rw [(hs.set i (x:=z) (y:=z) rfl).check,dX]
 have hc:=(dX l).1 h
 exact⟨hc.1.set i hi z hz hsz,by have :=vN h;intro e;have :=congrArg List.length e;simp at this;exact hc.2 this⟩
theorem aKN {base l:List Zn} {p:Int} {u:Bool} (hs:fV base l)(h:bB l=true):bB (bX base l p u).1=true:=by
 have hc:=(dX l).1 h
 have key:=aOR (base:=base) (p:=p) (u:=u) h
 generalize bX base l p u=q at key
 cases key with
 |range _=>rw [hs.check];exact h
 |full _ _ _=>rw [hs.check];exact h
 |ok _ _ i hi _ _ _=>exact hs.set_check h i hi (hc.1.get i hi).1.taken rfl
theorem aQT {base l:List Zn} {p:Int} {u:Bool} :(bX base l p u).1.length=base.length:=by
 rw [bX]
 repeat(first | (cases(bB l)<;> simp only [zU,Bool.not_false,cond_true,cond_false])| (cases(decide (p<0)||decide ((l.length:Int)≤p))<;> simp only [cond_true,cond_false])|rfl)
 cases cX l u (p+1).toNat <;> simp
theorem aG7 {base base' l:List Zn} {p:Int} {u:Bool} (hs:fV base base'):fV (bX base l p u).1 (bX base' l p u).1∧(bX base l p u).2=(bX base' l p u).2:=by
 rw [bX,bX]
 cases bB l with
 |false=>exact⟨hs,rfl⟩
 |true=>
  cases decide (p<0)||decide ((l.length:Int)≤p) with
  |true=>exact⟨hs,rfl⟩
  |false=>
   cases ht:cX l u (p+1).toNat with
   |none=>exact⟨hs,rfl⟩
   |some i=>exact⟨hs.set i rfl,rfl⟩
inductive aMW(base l:List Zn)(f:Int):List Zn×Int→Prop
 |range (h:∀z∈l,¬(z.first≤f∧f<z.first+z.size)):aMW base l f (base,2)
 |free (i:Nat) (hi:i<l.length) (hf:l[i].first≤f∧f<l[i].first+l[i].size) (hm:f∈l[i].free):aMW base l f (base,5)
 |ok (i:Nat) (hi:i<l.length) (hf:l[i].first≤f∧f<l[i].first+l[i].size) (hm:f∉l[i].free):aMW base l f (base.set i (aS7 l[i] f),0)
theorem aWN {z:Zn} {f g:Int} (h:RZ g z)(hg:1≤g):inG f z=true↔z.first≤f∧f<z.first+z.size:=by
 have h1:=h.first;have h2:=h.stop;have h3:=h.size
 rw [inG,iT,aO (by omega) (by omega)]
 by_cases e:z.first≤f
 ·simp [e]
 ·simp [e]
theorem aC3 {base l:List Zn} {f:Int} (h:bB l=true):aMW base l f (dW base l f):=by
 have hc:=(dX l).1 h
 have hin:∀i (hi:i<l.length),inG f l[i]=true↔l[i].first≤f∧f<l[i].first+l[i].size:=fun i hi=>by
  obtain⟨g1,g2⟩:=hc.1.get i hi
  exact aWN g1 g2
 rw [dW,h,zU,cond_false]
 by_cases hr:dI (inG f) l<0
 ·rw [show decide (dI (inG f) l<0)=true by simpa using hr,cond_true]
  refine .range fun z hz=>?_
  obtain⟨i,hi,rfl⟩:=zC hz
  rw [←hin i hi,(rA _ _).1 hr _ (zI hi)]
  simp
 ·rw [show decide (dI (inG f) l<0)=false by simpa using hr,cond_false]
  obtain⟨i,hi,e,h1,-⟩:=nT (inG f) l (by omega)
  rw [e,zL,tI l i hi]
  obtain⟨g1,g2⟩:=hc.1.get i hi
  cases hm:vW l[i].free f with
  |true=>exact .free i hi ((hin i hi).1 h1) ((aGT g1.free.asc f).1 hm)
  |false=>
   refine .ok i hi ((hin i hi).1 h1) fun hx=>?_
   rw [(aGT g1.free.asc f).2 hx] at hm;cases hm
theorem aJ8 {base l:List Zn} {f:Int} (hs:fV base l)(h:bB l=true):bB (dW base l f).1=true:=by
 have hc:=(dX l).1 h
 have key:=aC3 (base:=base) (f:=f) h
 generalize dW base l f=q at key
 cases key with
 |range _=>rw [hs.check];exact h
 |free _ _ _ _=>rw [hs.check];exact h
 |ok i hi hf hm=>exact hs.set_check h i hi ((hc.1.get i hi).1.gave hf hm) rfl
theorem aXZ(a b:Int):jG a b (lM a b):=by
 refine⟨?_,fun x hx=>(aJN a b x).1 hx⟩
 rw [lM,List.pairwise_map]
 refine List.Pairwise.imp (fun h=>?_) List.pairwise_lt_range
 omega
theorem aGJ {n k:Int} (h0:0≤n)(h1:n≤64)(hk:1≤k):qP n k=n/k∧0≤qP n k∧qP n k≤n:=by
 have e:n.tdiv k=n/k:=Int.tdiv_eq_ediv_of_nonneg h0
 have a:=Int.ediv_nonneg h0 (show 0≤k by omega)
 have b:=Int.ediv_le_self k h0
 rw [qP,e,aO (by omega) (by omega)]
 omega
theorem aPX {f n:Int} (hf:1≤f∧f≤65)(h:aBN f n=false):RZ f (mkZ f n):=by
 obtain⟨a1,a2,a3,a4⟩:=rS hf h
 have d8:=aGJ (n:=n) (k:=8) (by omega) a2 (by decide)
 have d4:=aGJ (n:=n) (k:=4) (by omega) a2 (by decide)
 have d2:=aGJ (n:=n) (k:=2) (by omega) a2 (by decide)
 exact⟨rfl,⟨a1,a2⟩,a3,⟨d8.2.1,by show qP n 8≤qP n 4;rw [d8.1,d4.1];omega,by show qP n 4≤qP n 2;rw [d4.1,d2.1];omega,d2.2.2⟩,aXZ _ _⟩
theorem aNQ:∀(s:List Int) (f:Int) (l:List Zn),1≤f∧f≤65→newR f s=some l→sJ f l∧l.length=s.length
 | [],f,l,_,h=>by obtain rfl: []=l:=Option.some.inj h;exact⟨trivial,rfl⟩
 |n::r,f,l,hf,h=>by
  rw [newR] at h
  cases hb:aBN f n with
  |true=>rw [hb] at h;cases h
  |false=>
   rw [hb,cond_false,Option.map_eq_some_iff] at h
   obtain⟨l',h1,rfl⟩:=h
   have a:=rS hf hb
   obtain⟨h2,h3⟩:=aNQ r (f+n) l' (by omega) h1
   exact⟨⟨aPX hf hb,h2⟩,by simp [h3]⟩
theorem aX0 {s:List Int} (h:(newF s).2=0):bB (newF s).1=true∧(newF s).1.length=s.length∧newR 1 s=some (newF s).1:=by
 rw [newF] at h⊢
 cases hs:((s.length:Int)==0) with
 |true=>rw [hs] at h;cases h
 |false=>
  rw [hs] at h
  cases hn:newR 1 s with
  |none=>rw [hn] at h;cases h
  |some l=>
   obtain⟨h1,h2⟩:=aNQ s 1 l (by decide) hn
   refine⟨(dX l).2 ⟨h1,?_⟩,h2,rfl⟩
   rintro rfl
   simp only [List.length_nil] at h2
   simp [←h2] at hs
end Go.Proofs.YtmhapcbjjpadnaaGreat
