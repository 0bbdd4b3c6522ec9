/- Caches. -/
import Derived.Test.YtmhapcbjjpadnaaGreatG4b
import Derived.Test.YtmhapcbjjpadnaaGreatG6b
import Derived.Test.YtmhapcbjjpadnaaGreatGDb
import Derived.Test.YtmhapcbjjpadnaaGreatGNb
import Derived.Test.YtmhapcbjjpadnaaGreatGKb
import Derived.Test.YtmhapcbjjpadnaaGreatK8b
set_option linter.all false
set_option maxHeartbeats 16000000
set_option maxRecDepth 40000
namespace Go.Proofs.YtmhapcbjjpadnaaGreat
open Go Go.Sk Go.RowKit
theorem takeG_sim {base base' l:List Zn} {p:Int} {u:Bool} (hs:gX base base'):gX (cJ base l p u).1 (cJ base' l p u).1/\(cJ base l p u).2=(cJ base' l p u).2:=by
 rw [cJ,cJ]
 cases bF l with
 |false=>exact⟨hs,rfl⟩
 |true=>
  cases decide (p<0)||decide ((l.length:Int)<=p) with
  |true=>exact⟨hs,rfl⟩
  |false=>
   cases ht:dO l u (p+1).toNat with
   |none=>exact⟨hs,rfl⟩
   |some i=>exact⟨hs.set i rfl,rfl⟩
theorem A_split {l:Ls} (h:0<l.A.length):l.A=bCH l++ [aOZ l]:=by
 have :=List.take_succ_eq_append_getElem (l:=l.A) (i:=l.A.length-1) (by omega)
 rw [show l.A.length-1+1=l.A.length by omega,List.take_length,fI _ _ (by omega)] at this
 exact this
theorem balS_perm {l:Ls} (h:0<l.A.length):((bLO l).A++(bLO l).I).Perm (l.A++l.I):=by
 have e:=A_split h
 unfold bLO
 cases decide (aOZ l∈l.R) with
 |true=>
  simp only [cond_true]
  conv=>rhs;rw [e]
  exact List.Perm.append_right _ (List.perm_append_comm (l₁:= [aOZ l]))
 |false=>
  simp only [cond_false]
  conv=>rhs;rw [e]
  rw [List.append_assoc];rfl
theorem aH9.of_perm {l m:Ls} (h:aH9 l)(hp:(m.A++m.I).Perm (l.A++l.I))(ha:m.R.Pairwise (·< ·))(hs:∀f∈m.R,f∈l.A++l.I):aH9 m:=
 ⟨hp.nodup_iff.2 h.nodup,λf hf=>h.known f (hp.mem_iff.1 hf),ha,λf hf=>hp.mem_iff.2 (hs f hf)⟩
theorem aH9.bal {l:Ls} (h:aH9 l)(h0:0<l.A.length):aH9 (bLO l):=by
 refine h.of_perm (balS_perm h0) ?_ ?_
 ·unfold bLO
  cases decide (aOZ l∈l.R) with
  |true=>exact aWN h.asc _
  |false=>exact h.asc
 ·unfold bLO
  cases decide (aOZ l∈l.R) with
  |true=>exact λf hf=>h.sub f (fV.1 hf).1
  |false=>exact h.sub
theorem takeK(l:Ls)(h:0<l.A.length):List.drop (Int.toNat 0) (List.take (((l.A.length-1:Nat):Int)).toNat (aE l.A))=aE (bCH l):=by
 rw [Int.toNat_natCast,bCH,aE,aE,List.map_take];rfl
theorem ok86(l:Ls)(hl:eL l):aM Tryz.prog 86 [] [.agg l.c] (.agg (bOK l).c) []:=by
 refine aF (ob0:= []) [.r 41] Tryz.func86 rfl rfl rfl rfl ?_
 generalize hk:bOK l=q
 rw [bOK] at hk
 refine cC (aUT l hl) ?_
 refine aC (λc1=>?_) (λc1=>?_)<;> try simp only [Bool.cond_true_left,Bool.cond_false_right,Bool.not_eq_true',Bool.not_eq_false',Bool.not_not] at c1
 ·rw [show(!fJ l)=true by rw [c1];rfl,cond_true] at hk
  subst hk
  refine Wk ?_
  try subst hk
  exact Lf
 have hP:=(gL l).1 c1
 rw [show(!fJ l)=false by rw [c1];rfl,cond_false] at hk
 refine Wk ?_
 rw [aA]
 have hn':l.A.length<=64:=by have :=hP.len;rw [List.length_append] at this;omega
 refine⟨Nat×Ls,λp=>(p.1<=64/\bGB p.1 p.2=q)/\aH9 p.2,λp=>⟨[(1,⟨[],true,.ptr 0 0 0⟩),(2,⟨[],true,.ptr 1 0 0⟩),(3,⟨[],true,.int .i64 (p.1:Int)⟩)],
  [(0,.box p.2.c),(1,.box [.lst 0 true [],.lst 0 true [],.lst 0 true []])],2⟩,λp=>p.1,⟨(l.A.length,l),⟨⟨hn',hk⟩,hP⟩,?_⟩,λp hp=>?_⟩
 ·exact Vw [some 0,some 1]
 obtain⟨n,m⟩:=p
 obtain⟨⟨hp1,hp2⟩,hm⟩:=hp
 dsimp only at hp1 hp2 hm⊢
 have hml:=hm.len
 rw [List.length_append] at hml
 have hmr:=hm.lenR
 refine Wk ?_
 rw [aA,aA]
 by_cases hn0:n=0
 ·subst hn0
  have hp2:m=q:=hp2
  subst hp2
  rw [show decide (0< (((0:Nat)):Int))=false from rfl]
  refine Wk ?_
  try subst hk
  exact Lf
 obtain⟨k,rfl⟩:∃k,n=k+1:=⟨n-1,by omega⟩
 rw [bGB] at hp2
 rw [show decide (0< (((k+1:Nat)):Int))=true by rw [decide_eq_true_eq];omega,cond_true]
 refine aC (λb2=>?_) (λb2=>?_)<;> try simp only [Bool.cond_true_left,Bool.cond_false_right,Bool.not_eq_true',Bool.not_eq_false',Bool.not_not] at b2
 ·have b2:m.I.length<m.A.length:=by simp at b2;omega
  rw [show decide ((m.A.length:Int)<=(m.I.length:Int))=false by rw [decide_eq_false_iff_not];omega,cond_false] at hp2
  have b2:0<m.A.length:=by omega
  have hlA:m.A.getD (m.A.length-1) 0=aOZ m:=rfl
  have hk1:IntKind.i64.wrap (((k+1:Nat):Int)-1)=(k:Int):=by rw [aR (by omega) (by omega)];omega
  refine Wk ?_
  rw [aA,aR (n:=(m.A.length:Int)-1) (by omega) (by omega),show((m.A.length:Int)-1)=((m.A.length-1:Nat):Int) by omega]
  first |refine aB (⟨rfl,by omega,by omega⟩) ?_ |refine aH (λ_=>⟨rfl,by omega,by omega⟩) ?_ |refine⟨λ_=>⟨rfl,by omega,by omega⟩,?_⟩
  rw [dX m.A (m.A.length-1) (by omega),hlA]
  refine Wk ?_
  refine⟨Unit,λ_=>True,λ_=>⟨[(1,⟨[],true,.ptr 0 0 0⟩),(2,⟨[],true,.ptr 1 0 0⟩),(3,⟨[],true,.int .i64 ((k+1:Nat):Int)⟩),(4,⟨[],true,.int .i64 (aOZ m)⟩),(5,⟨[],true,.lst 1 false (aE (bCH m))⟩)],
   [(0,.box m.c),(1,.box [.lst 0 true [],.lst 0 true [],.lst 0 true []])],2⟩,?_,λ_ _=>?_⟩
  ·refine Wk ?_
   rw [aA,aR (n:=(m.A.length:Int)-1) (by omega) (by omega),show((m.A.length:Int)-1)=((m.A.length-1:Nat):Int) by omega]
   first |refine aB (⟨.inl rfl,Int.le_refl _,by omega,by omega⟩) ?_ |refine aH (λ_=>⟨.inl rfl,Int.le_refl _,by omega,by omega⟩) ?_ |refine⟨λ_=>⟨.inl rfl,Int.le_refl _,by omega,by omega⟩,?_⟩
   rw [takeK m b2]
   refine Wk ?_
   have hrl:(bCH m).length<=64:=by rw [bCH,List.length_take];omega
   rw [aA]
   first |refine bG (by omega) (by omega) ?_ |refine aB ⟨by omega,by omega⟩ ?_ |refine⟨by omega,by omega,?_⟩
   refine Wk ?_
   refine⟨(),trivial,?_⟩
   refine bX [some 0,some 1] rfl rfl ?_ rfl ?_ rfl ?_
   repeat' (first |exact trivial |rfl |exact .inl rfl |exact .inr rfl |exact id |exact(λh=>Bool.noConfusion h)|refine And.intro ?_ ?_)
   ·show 0+(bCH m).length<=_
    rw [aA];omega
   ·exact dB (aA _)
  have hrl:(bCH m).length<=64:=by rw [bCH,List.length_take];omega
  refine cC (aGL m.R false (aOZ m) (by omega)) ?_
  rw [atM]
  have hbal:=hm.bal b2
  have hS:bLO m=bif decide (aOZ m∈m.R) then⟨aOZ m::bCH m,m.I,wo m.R (aOZ m)⟩ else⟨bCH m,aOZ m::m.I,m.R⟩:=rfl
  generalize bLO m=m' at hbal hp2 hS
  refine aC (λb3=>?_) (λb3=>?_)<;> try simp only [Bool.cond_true_left,Bool.cond_false_right,Bool.not_eq_true',Bool.not_eq_false',Bool.not_not] at b3
  ·rw [b3,cond_true] at hS
   refine Wk2 (aUU (bCH m) false (aOZ m) (by omega)) (aKZ m.R false (aOZ m) (by omega)) ?_
   rw [hk1]
   refine⟨(k,m'),⟨⟨by show k<=64;omega,hp2⟩,hbal⟩,?_,by show k<k+1;omega⟩
   subst hS
   exact Vw [some 0,some 1]
  rw [b3,cond_false] at hS
  refine cC (aUU m.I false (aOZ m) (by omega)) ?_
  rw [hk1]
  refine⟨(k,m'),⟨⟨by show k<=64;omega,hp2⟩,hbal⟩,?_,by show k<k+1;omega⟩
  subst hS
  exact Vw [some 0,some 1]
 have b2:m.A.length<=m.I.length:=by simp at b2;omega
 rw [show decide ((m.A.length:Int)<=(m.I.length:Int))=true by rw [decide_eq_true_eq];omega,cond_true] at hp2
 subst hp2
 refine Wk ?_
 try subst hk
 exact Lf
theorem rev_take {l:List Int} {k:Nat} (h:k<l.length):(l.take (k+1)).reverse=l[k]::(l.take k).reverse:=by
 rw [List.take_succ_eq_append_getElem h,List.reverse_append];rfl
theorem rev_takeN(l:List Int):(l.take l.length).reverse=l.reverse:=by rw [List.take_length]
theorem ScB.next {l:Ls} {k:Nat} {s:ScS} (h:ScB l (k+1) s)(R0 held:List Int)(f:Int):ScB l k (bKP R0 held s f):=by
 obtain⟨h1,h2,h3,h4⟩:=h
 unfold bKP
 cases decide (f∈held) with
 |true=>exact⟨by omega,by simp only [cond_true];omega,h3,by simp only [cond_true];omega⟩
 |false=>
  cases decide (f∈R0) with
  |true=>
   have :=aO8 s.I f
   have :=aO8 s.R f
   exact⟨by omega,by simp only [cond_true,cond_false,List.length_cons];omega,by simp only [cond_true,cond_false];omega,by simp only [cond_true,cond_false];omega⟩
  |false=>exact⟨by omega,by simp only [cond_false];omega,h3,by simp only [cond_false,List.length_append,List.length_singleton];omega⟩
theorem ScR.next {l:Ls} {k:Nat} {s:ScS} (h:ScR l (k+1) s)(hP:aH9 l)(hk:k<l.I.length)(held:List Int):ScR l k (bKP l.R held s l.I[k]):=λj hj hjk=>by
 have h1:=h j hj (by omega)
 have hne:l.I[j]≠l.I[k]:=List.pairwise_iff_getElem.1 (List.nodup_append.1 hP.nodup).2.1 j k hj hk hjk
 unfold bKP
 cases decide (l.I[k]∈held) with
 |true=>exact h1
 |false=>
  cases decide (l.I[k]∈l.R) with
  |true=>
   simp only [cond_true,cond_false]
   rw [fV,h1]
   exact⟨λh=>h.1,λh=>⟨h,hne⟩⟩
  |false=>exact h1
theorem ok88(l:Ls)(n:Int)(held:List Int)(t:Bool)(hl:eL l)(hh:held.length<=100000):aM Tryz.prog 88 [] [.agg l.c,.int .i64 n,.lst 1 t (aE held)] (.tup [.agg (bO7 l n held).1.c,.lst 1 false (aE (bO7 l n held).2)]) []:=by
 refine aF (ob0:= []) [.r 22] Tryz.func88 rfl rfl rfl rfl ?_
 generalize hk:bO7 l n held=q
 rw [bO7] at hk
 refine cC (aUT l hl) ?_
 refine aC (λc1=>?_) (λc1=>?_)<;> try simp only [Bool.cond_true_left,Bool.cond_false_right,Bool.not_eq_true',Bool.not_eq_false',Bool.not_not] at c1
 ·by_cases c0:fJ l=true
  ·have hP:=(gL l).1 c0
   have c1:n<1:=by simp [c0] at c1;omega
   rw [c0,Bool.not_true,cond_false] at hk
   have e:aQ6 l.R held n l.I.reverse ⟨l.I,l.R,[]⟩=⟨l.I,l.R,[]⟩:=by
    cases l.I.reverse with
    |nil=>rfl
    |cons f r=>
     rw [aQ6,show decide ((([]:List Int).length:Int)<n)=false by rw [decide_eq_false_iff_not];simp;omega];rfl
   rw [e] at hk
   subst hk
   refine Wk ?_
   try subst hk
   exact Lf
  ·rw [show(!fJ l)=true by simpa using c0,cond_true] at hk
   subst hk
   refine Wk ?_
   try subst hk
   exact Lf
 have c0:fJ l=true:=by
  cases h:fJ l with
  |true=>rfl
  |false=>rw [h] at c1;simp at c1
 have hP:=(gL l).1 c0
 rw [c0,Bool.not_true,cond_false] at hk
 have hml:=hP.len
 rw [List.length_append] at hml
 have hmr:=hP.lenR
 refine Wk ?_
 refine⟨Unit,λ_=>True,λ_=>⟨[(1,⟨[],true,.int .i64 n⟩),(2,⟨[],true,.lst 1 t (aE held)⟩),(3,⟨[],true,.ptr 0 0 0⟩),(6,⟨[],true,.ptr 1 0 0⟩),(8,⟨[],true,.lst 1 false (aE l.I)⟩)],
  [(0,.box l.c),(1,.box [.lst 0 true [],.lst 0 true [],.lst 0 true []])],2⟩,?_,λ_ _=>?_⟩
 ·refine Wk ?_
  first |refine bG (by rw [aA];omega) (by rw [aA];omega) ?_ |refine aB ⟨by rw [aA];omega,by rw [aA];omega⟩ ?_ |refine⟨by rw [aA];omega,by rw [aA];omega,?_⟩
  refine Wk ?_
  refine⟨(),trivial,?_⟩
  rw [aA]
  refine bX [some 0,some 1] rfl rfl ?_ rfl ?_ rfl ?_
  repeat' (first |exact trivial |rfl |exact .inl rfl |exact .inr rfl |exact id |exact(λh=>Bool.noConfusion h)|refine And.intro ?_ ?_)
  ·show 0+l.I.length<=_
   rw [aA];omega
  ·exact dB (aA _)
 refine Wk ?_
 rw [aA,aR (n:=(l.I.length:Int)-1) (by omega) (by omega)]
 refine⟨Nat×ScS,λp=>(ScB l p.1 p.2/\ScR l p.1 p.2)/\(⟨l.A,(aQ6 l.R held n (l.I.take p.1).reverse p.2).I,(aQ6 l.R held n (l.I.take p.1).reverse p.2).R⟩,(aQ6 l.R held n (l.I.take p.1).reverse p.2).v)=q,λp=>⟨[(1,⟨[],true,.int .i64 n⟩),(2,⟨[],true,.lst 1 t (aE held)⟩),(3,⟨[],true,.ptr 0 0 0⟩),(6,⟨[],true,.ptr 1 0 0⟩),(8,⟨[],true,.lst 1 false (aE l.I)⟩),(9,⟨[],true,.sl 2 0 p.2.v.length⟩),(10,⟨[],true,.int .i64 ((p.1:Int)-1)⟩)],
  [(0,.box [.lst 1 false (aE l.A),.lst 1 false (aE p.2.I),.lst 1 false (aE p.2.R)]),(1,.box [.lst 0 true [],.lst 0 true [],.lst 0 true []]),(2,.row 1 (aE p.2.v))],3⟩,λp=>p.1,⟨(l.I.length,⟨l.I,l.R,[]⟩),⟨⟨⟨Nat.le_refl _,by show l.I.length+l.I.length<=_;omega,Nat.le_refl _,by show([]:List Int).length+l.I.length<=_;simp⟩,λ_ _ _=>Iff.rfl⟩,by dsimp only;rw [rev_takeN];exact hk⟩,?_⟩,λp hp=>?_⟩
 ·exact Vw [some 0,some 1,none]
 obtain⟨k,s⟩:=p
 obtain⟨⟨hB,hR⟩,hq⟩:=hp
 dsimp only at hB hR hq⊢
 have hBk:=hB.kk;have hBi:=hB.i;have hBr:=hB.r;have hBv:=hB.v
 refine Wk ?_
 by_cases hk0:k=0
 ·subst hk0
  rw [show decide (0<=(((0:Nat)):Int)-1)=false from rfl]
  subst hq
  refine Wk ?_
  refine⟨[],trivial,rfl,trivial,rfl,?_⟩
  try subst hk
  repeat' (first |exact trivial |rfl |exact .inl rfl |exact .inr rfl |exact id |exact(λh=>Bool.noConfusion h)|refine And.intro ?_ ?_)
  ·show 0+s.v.length<=_
   rw [aA];omega
  ·exact dB (aA _)
 obtain⟨k,rfl⟩:∃j,k=j+1:=⟨k-1,by omega⟩
 rw [show(((k+1:Nat):Int)-1)=(k:Int) by omega,show decide (0<=(k:Int))=true by rw [decide_eq_true_eq];omega,cond_true]
 have hkl:k<l.I.length:=by omega
 rw [rev_take hkl,aQ6] at hq
 have hw:IntKind.i64.wrap ((k:Int)-1)=(k:Int)-1:=aR (by omega) (by omega)
 refine aC (λb2=>?_) (λb2=>?_)<;> try simp only [Bool.cond_true_left,Bool.cond_false_right,Bool.not_eq_true',Bool.not_eq_false',Bool.not_not] at b2
 ·rw [b2,cond_true] at hq
  have hB':=hB.next l.R held l.I[k]
  have hR':=hR.next hP hkl held
  have hRk:=hR k hkl (by omega)
  refine Wk ?_
  first |refine aB (⟨rfl,by omega,by rw [aA];omega⟩) ?_ |refine aH (λ_=>⟨rfl,by omega,by rw [aA];omega⟩) ?_ |refine⟨λ_=>⟨rfl,by omega,by rw [aA];omega⟩,?_⟩
  rw [dX l.I k hkl,<-fI l.I k hkl]
  have hS:bKP l.R held s l.I[k]=bif decide (l.I[k]∈held) then s else bif decide (l.I[k]∈l.R) then⟨l.I[k]::wo s.I l.I[k],wo s.R l.I[k],s.v⟩ else⟨s.I,s.R,s.v++ [l.I[k]]⟩:=rfl
  generalize bKP l.R held s l.I[k]=s' at hB' hR' hq hS
  generalize l.I[k]=f at hS hRk⊢
  have hdec:decide (f∈s.R)=decide (f∈l.R):=decide_eq_decide.2 hRk
  have hwl:=aO8 s.I f
  refine cC (aGL held t f (by omega)) ?_
  rw [atM]
  refine aC (λb3=>?_) (λb3=>?_)<;> try simp only [Bool.cond_true_left,Bool.cond_false_right,Bool.not_eq_true',Bool.not_eq_false',Bool.not_not] at b3
  ·rw [b3,cond_true] at hS
   subst hS
   refine Wk ?_
   rw [hw]
   refine⟨(k,s'),⟨⟨hB',hR'⟩,hq⟩,?_,by show k<k+1;omega⟩
   exact Vw [some 0,some 1,some 2]
  rw [b3,cond_false] at hS
  refine cC (aGL s.R false f (by omega)) ?_
  rw [atM,hdec]
  refine aC (λb4=>?_) (λb4=>?_)<;> try simp only [Bool.cond_true_left,Bool.cond_false_right,Bool.not_eq_true',Bool.not_eq_false',Bool.not_not] at b4
  ·rw [b4,cond_true] at hS
   refine Wk3 (aKZ s.I false f (by omega)) (aKZ s.R false f (by omega)) (aUU (wo s.I f) false f (by omega)) ?_
   rw [hw]
   refine⟨(k,s'),⟨⟨hB',hR'⟩,hq⟩,?_,by show k<k+1;omega⟩
   subst hS
   exact Vw [some 0,some 1,some 2]
  rw [b4,cond_false] at hS
  refine Wk ?_
  first |refine aB ((aA s.v).symm) (bG (by show(((aE s.v).length+1:Nat):Int)<=_;rw [aA];omega) (by show((aE s.v).length+1)*8<=_;rw [aA];omega) ?_)|refine aB ⟨(aA s.v).symm,by show(((aE s.v).length+1:Nat):Int)<=_;rw [aA];omega,by show((aE s.v).length+1)*8<=_;rw [aA];omega⟩ ?_ |refine⟨(aA s.v).symm,by show(((aE s.v).length+1:Nat):Int)<=_;rw [aA];omega,by show((aE s.v).length+1)*8<=_;rw [aA];omega,?_⟩
  refine Wk ?_
  rw [hw]
  refine⟨(k,s'),⟨⟨hB',hR'⟩,hq⟩,?_,by show k<k+1;omega⟩
  subst hS
  refine bX [some 0,some 1,some ?k298_2] rfl rfl ?h3_298 ?h4_298 ?h5_298 ?h6_298 ?h7_298
  case' h7_298=>repeat' (first |exact trivial |rfl |exact .inl rfl |exact .inr rfl |exact id |exact(λh=>Bool.noConfusion h)|refine And.intro ?_ ?_)
  case' h4_298=>rfl
  case' h6_298=>rfl
  case' h3_298=>repeat' (first |exact trivial |rfl |exact .inl rfl |exact .inr rfl |exact id |exact(λh=>Bool.noConfusion h)|refine And.intro ?_ ?_)
  case' h5_298=>repeat' (first |exact trivial |rfl |exact .inl rfl |exact .inr rfl |exact id |exact(λh=>Bool.noConfusion h)|refine And.intro ?_ ?_)
  ·exact fW s.v f
  ·show(aE s.v).length+1=_
   rw [aA,List.length_append];rfl
 rw [b2,cond_false] at hq
 subst hq
 refine Wk ?_
 refine⟨[],trivial,rfl,trivial,rfl,?_⟩
 try subst hk
 repeat' (first |exact trivial |rfl |exact .inl rfl |exact .inr rfl |exact id |exact(λh=>Bool.noConfusion h)|refine And.intro ?_ ?_)
 ·show 0+s.v.length<=_
  rw [aA];omega
 ·exact dB (aA _)
theorem ok243(c:Int)(h0:0<=c)(h1:c<=1000000):aM Tryz.prog 243 [] [.int .i64 c] (.bool true) []:=by
 refine aF (ob0:= []) [] Tryz.func243 rfl rfl rfl rfl ?_
 refine Wk ?_
 rw [show decide ((0:Int)<=c)=true from decide_eq_true h0,show decide (c<=1000000)=true from decide_eq_true h1]
 try subst hk
 exact Lf
theorem ok348(s:Int):aM Tryz.prog 348 [] [.int .i64 s] (.tup [.int .i64 (kG s).1,.bool (kG s).2]) []:=by
 generalize hk:kG s=q
 unfold kG at hk
 refine aF (ob0:= []) [] Tryz.func348 rfl rfl rfl rfl ?_
 refine Wk ?_
 refine aC (λc1=>?_) (λc1=>?_)<;> try simp only [Bool.cond_true_left,Bool.cond_false_right,Bool.not_eq_true',Bool.not_eq_false',Bool.not_not] at c1
 ·rw [c1,cond_true] at hk
  subst hk
  refine Wk ?_
  try subst hk
  exact Lf
 have c2:0-s-1= -s-1/\-(1000001:Int)<=s/\s<=0:=by
  by_cases h1:0<=s
  ·rw [decide_eq_true h1] at c1;cases c1
  ·rw [decide_eq_false h1,Bool.false_or,decide_eq_false_iff_not] at c1;omega
 obtain⟨c2,c3,c4⟩:=c2
 rw [c1,cond_false] at hk
 subst hk
 refine Wk ?_
 rw [aR (n:=0-s) (by omega) (by omega),aR (n:=0-s-1) (by omega) (by omega),c2]
 try subst hk
 exact Lf
theorem call348:fY Tryz.prog 348:=⟨_,Tryz.func348,rfl,rfl⟩
theorem ok315(s:Int):aM Tryz.prog 315 [] [.int .i64 s] (.tup [.int .i64 (kG s).1,.bool (kG s).2]) []:=by
 have k348:=ok348 s
 generalize(kG s).1=a at k348⊢
 generalize(kG s).2=b at k348⊢
 refine aF (ob0:= []) [] Tryz.func315 rfl rfl rfl rfl ?_
 refine Wk ?_
 refine⟨call348,?_⟩
 refine cC k348 ?_
 try subst hk
 exact Lf
theorem ok242(c s:Int)(h0:0<=c)(h1:c<=1000000):aM Tryz.prog 242 [] [.int .i64 c,.int .i64 s] (.tup [.int .i64 (aDS c s).1,.int .i64 (aDS c s).2]) []:=by
 generalize hk:aDS c s=q
 unfold aDS at hk
 have k315:=ok315 s
 have hb:=aSD (s:=s)
 generalize(kG s).1=t at k315 hb hk
 generalize(kG s).2=o at k315 hb hk
 generalize hw:(bif !o then true else decide (c<=t))=w at hk
 refine aF (ob0:= []) [] Tryz.func242 rfl rfl rfl rfl ?_
 refine Wk2 (ok243 c h0 h1) k315 ?_
 rw [show(bif !o then true else decide (c<=t))=w from hw]
 cases w with
 |true=>
  rw [cond_true] at hk
  subst hk
  refine Wk ?_
  try subst hk
  exact Lf
 |false=>
  rw [cond_false] at hk
  subst hk
  have h3:=hb (by cases o;cases hw;rfl)
  refine Wk ?_
  rw [aR (n:=c-t) (by omega) (by omega)]
  try subst hk
  exact Lf
theorem ok150(c s n:Int)(h0:0<=c)(h1:c<=1000000):aM Tryz.prog 150 [] [.int .i64 c,.int .i64 s,.int .i64 n] (.bool (aXD c s n)) []:=by
 have k:=ok242 c s h0 h1
 unfold aXD
 generalize aDS c s=q at k⊢
 refine aF (ob0:= []) [] Tryz.func150 rfl rfl rfl rfl ?_
 refine cC k ?_
 try subst hk
 exact Lf
theorem ok144:aM Tryz.prog 144 [] [] (.agg (Pg.mk z16 0 0).c) []:=run_eq E1 40 (by kernel_rfl)
theorem ok146:aM Tryz.prog 146 [] [] (.agg (Pg.mk z16 3 0).c) []:=run_eq E1 40 (by kernel_rfl)
theorem ok40e(c:Dc)(h:Ok c)(f p t pf:Int)(ur:Bool)(hi:inI c f p t pf=false):aM Tryz.prog 40 [] [.agg c.c,.int .i64 f,.int .i64 p,.int .i64 t,.int .i64 pf,.bool ur] (.tup [.agg c.x.c,.int .i64 0,.int .i64 2]) []:=by
 have k82:=aRQ c h
 have k141:=aN4 c f
 unfold inI at hi
 have hi:=of_decide_eq_false hi
 by_cases a1:0<=f/\f< (c.fl.length:Int)
 ·rw [decide_eq_true a1] at k141
  by_cases b1:p<0
  ·refine dF R40 (ob0:= []) cE Tryz.func40 rfl rfl rfl ?_
   exact jR
  by_cases b2:8<=p
  ·refine dF R40 (ob0:= []) cE Tryz.func40 rfl rfl rfl ?_
   exact jR
  by_cases b3:t<0
  ·refine dF R40 (ob0:= []) cE Tryz.func40 rfl rfl rfl ?_
   exact jR
  by_cases b4:(c.gr.length:Int)<=t
  ·refine dF R40 (ob0:= []) cE Tryz.func40 rfl rfl rfl ?_
   exact jR
  by_cases b5:pf<0
  ·refine dF R40 (ob0:= []) cE Tryz.func40 rfl rfl rfl ?_
   exact jR
  have b6:(c.zo.length:Int)<=pf:=by omega
  refine dF R40 (ob0:= []) cE Tryz.func40 rfl rfl rfl ?_
  exact jR
 ·rw [decide_eq_false a1] at k141
  refine dF R40 (ob0:= []) cE Tryz.func40 rfl rfl rfl ?_
  exact jR
theorem ok40i(c:Dc)(h:Ok c)(f p t pf:Nat)(ur:Bool)(hf:f<c.fl.length)(hp:p<8)(ht:t<c.gr.length)(hpf:pf<c.zo.length):
 aM Tryz.prog 40 [] [.agg c.c,.int .i64 (f:Int),.int .i64 (p:Int),.int .i64 (t:Int),.int .i64 (pf:Int),.bool ur] (.tup [.agg (bGV c f p t (pf:Int) ur).1.c,.int .i64 (bGV c f p t (pf:Int) ur).2.1,.int .i64 (bGV c f p t (pf:Int) ur).2.2]) []:=by
 have k82:=aRQ c h
 have k141:=aGK c f hf
 have kf:=h.file f hf
 have k138:=bAV c f p (by omega) h.sm hf kf.E kf.sup
 rw [aAN] at k138
 have k142:=bNT c.gr t ht h.gr
 have k109:=bH5 c.zo false (pf:Int) ur h.smZ
 have hgf:=iS hf
 have htl:t<c.ls.length:=by rw [h.nl];exact ht
 have htk:t<c.ck.length:=by rw [h.nk];exact ht
 have hgl:=kD c.ls t htl
 have hgk:=aZU htk
 have k143:=bAW kf.E kf.sup p (by omega)
 have hck:=h.ck t
 have k150:=ok150 (c.ck.getD t 0) ((c.fl.getD f aP).E p).1 ((c.ls.getD t l0).A.length:Int) hck.1 hck.2
 have k144:=ok144
 have k146:=ok146
 have k145:=bHJ (c.fl.getD f aP) kf.E p hp kf.blocks
 have hnr:=h.nr
 obtain⟨k0,k1,k2,k3,hfc,hcan⟩:=Df.cells kf.E
 generalize hq:bGV c f p t (pf:Int) ur=q
 unfold bGV at hq
 by_cases e1:0< ((c.fl.getD f aP).E p).1
 ·rw [decide_eq_true e1,cond_true] at hq
  rw [decide_eq_false (show ¬((c.fl.getD f aP).E p).1<=0 by omega),cond_false] at k138
  subst hq
  refine dF R40 (ob0:= []) cE Tryz.func40 rfl rfl rfl ?_
  exact jR
 rw [decide_eq_false e1,cond_false] at hq
 rw [decide_eq_true (show((c.fl.getD f aP).E p).1<=0 by omega),cond_true] at k138
 by_cases e2:(cK c.gr t).2=0
 ·rw [beq_iff_eq.2 e2,cond_true] at hq
  rw [e2] at k142
  by_cases e3:(cJ (c.zo.map gF) c.zo (pf:Int) ur).2.2=0
  ·rw [beq_iff_eq.2 e3,cond_true] at hq
   have hsim:=takeG_sim (p:=(pf:Int)) (u:=ur) (l:=c.zo) (gX.ex c.zo)
   obtain⟨m,m1,m2,m3⟩:=take_at h (by rw [<-hsim.2];exact e3)
   rw [<-hsim.2] at m2
   rw [e3,m2] at k109
   rw [m2,show(((m+1:Nat):Int)-1).toNat=m by omega] at hq
   have hE':bH (cI (c.fl.getD f aP).E p (((m+1:Nat):Int),0)):=kf.E.set (Nat.zero_lt_succ _) (λ_=>rfl)
   have k148:=aUI kf.E kf.sup p (by omega) ((m+1:Nat):Int)
   have k149:=bHK (c.ls.getD t l0) ((m+1:Nat):Int) (aN7 c f p t) (h.smL t)
   have hput:=nN c.fl f _ hf kf.E hE'
   rw [eJ c.fl f hf] at hput
   have hsetl:∀x:Ls,(bW c.ls).set t (aU 3 (c.ls.getD t l0).c 0 x.c)=bW (c.ls.set t x):=λx=>pR c.ls t x
   have hsetu:(aV c.fr).set m (aU 9 fre.c 0 (vL c f p t).c)=aV (c.fr.set m (some (vL c f p t))):=by
    have :aU 9 fre.c 0 (vL c f p t).c=(vL c f p t).c:=rfl
    rw [this];unfold aV;rw [List.map_set];rfl
   have hgu:(aV c.fr).getD m []=fre.c:=by rw [cH c.fr m m1,m3];rfl
   obtain⟨q0,q1,q2,q3,hcan'⟩:=bB hE'
   rw [hfc] at hgf hput k145
   rw [hcan] at k143
   rw [hcan,hcan'] at k148
   rw [hcan'] at hput
   subst hq
   unfold Dc.bGU
   simp only [Dc.c]
   rw [<-hput,<-hsetu,<-hsetl]
   unfold vL aKT
   unfold aN7 at k149⊢
   generalize lZ (c.fl.getD f aP).blocks p=b at *
   generalize aXD (c.ck.getD t 0) ((c.fl.getD f aP).E p).1 ((c.ls.getD t l0).A.length:Int)=ac at *
   generalize(aMB (c.ls.getD t l0) ((m+1:Nat):Int) ac).2=le at *
   generalize(aMB (c.ls.getD t l0) ((m+1:Nat):Int) ac).1=l2 at *
   clear hsim
   generalize(cJ (c.zo.map gF) c.zo (pf:Int) ur).1=z2 at *
   generalize(cK c.gr t).1=g2 at *
   have k147:=bE3 c.fr m m1 hnr (aQ z2) (bC g2) (aY c.pt) (bA c.fl) (bW c.ls) (aE c.ck) c.fl.length c.ls.length c.ck.length
   rw [xb] at k82
   cases b with
   |true=>
    refine dF R40 (ob0:= []) cE Tryz.func40 rfl rfl rfl ?_
    exact jR
   |false=>
    refine dF R40 (ob0:= []) cE Tryz.func40 rfl rfl rfl ?_
    exact jR
  ·rw [beq_eq_false_iff_ne.2 e3,cond_false] at hq
   subst hq
   generalize cJ (c.zo.map gF) c.zo (pf:Int) ur=x at *
   obtain⟨z2,zn,ze⟩:=x
   dsimp only at *
   refine dF R40 (ob0:= []) cE Tryz.func40 rfl rfl rfl ?_
   exact jR
 ·rw [beq_eq_false_iff_ne.2 e2,cond_false] at hq
  subst hq
  generalize cK c.gr t=x at *
  obtain⟨g2,ge⟩:=x
  dsimp only at *
  refine dF R40 (ob0:= []) cE Tryz.func40 rfl rfl rfl ?_
  exact jR
theorem ok40(c:Dc)(h:Ok c)(f p t pf:Int)(ur:Bool):aM Tryz.prog 40 [] [.agg c.c,.int .i64 f,.int .i64 p,.int .i64 t,.int .i64 pf,.bool ur] (.tup [.agg (bGU c f p t pf ur).1.c,.int .i64 (bGU c f p t pf ur).2.1,.int .i64 (bGU c f p t pf ur).2.2]) []:=by
 unfold bGU
 cases e:inI c f p t pf with
 |false=>exact ok40e c h f p t pf ur e
 |true=>
  unfold inI at e
  have e:=of_decide_eq_true e
  have :=ok40i c h f.toNat p.toNat t.toNat pf.toNat ur (by omega) (by omega) (by omega) (by omega)
  rwa [show((f.toNat:Nat):Int)=f by omega,show((p.toNat:Nat):Int)=p by omega,show((t.toNat:Nat):Int)=t by omega,show((pf.toNat:Nat):Int)=pf by omega] at this
structure mZ(a b:Dc):Prop where
 fl:a.fl=b.fl
 fr:a.fr=b.fr
 zo:gX a.zo b.zo
 gr:a.gr=b.gr
 ls:a.ls=b.ls
 ck:a.ck=b.ck
 pt:a.pt=b.pt
theorem aYV(l:List Zn):gX (l.map noZ) l:=by
 show(l.map noZ).map gF=l.map gF
 rw [List.map_map];rfl
theorem mZ.x(c:Dc):mZ c.x c:=⟨rfl,rfl,aYV _,rfl,rfl,rfl,rfl⟩
theorem addP_F {l:Ls} {f:Int} (act:Bool)(hn:¬inL l f):aMB l f act=aAE l f act:=by
 have h1:wo l.A f=l.A:=aAA λh=>hn (.inl h)
 have h2:wo l.I f=l.I:=aAA λh=>hn (.inr h)
 unfold aMB aAE aSV
 dsimp only
 rw [h1,h2]
theorem ins_sim {c:Dc} (h:Ok c)(f p t pf:Int)(ur:Bool):mZ (bGU c f p t pf ur).1 (iZ c f p t pf ur).1/\(bGU c f p t pf ur).2=(iZ c f p t pf ur).2:=by
 unfold bGU iZ
 cases hi:inI c f p t pf with
 |false=>exact⟨.x c,rfl⟩
 |true=>
  unfold inI at hi
  have hi:=of_decide_eq_true hi
  have ht:t.toNat<c.ls.length:=by rw [h.nl];omega
  rw [cond_true,cond_true]
  generalize t.toNat=t at *
  unfold bGV eU
  cases decide (0< ((c.fl.getD f.toNat aP).E p.toNat).1) with
  |true=>exact⟨.x c,rfl⟩
  |false=>
   rw [cond_false,cond_false]
   cases((cK c.gr t).2==0) with
   |false=>exact⟨.x c,rfl⟩
   |true=>
    rw [cond_true,cond_true]
    obtain⟨s1,s2⟩:=takeG_sim (p:=pf) (u:=ur) (l:=c.zo) (gX.ex c.zo)
    rw [s2]
    cases e3:((cJ c.zo c.zo pf ur).2.2==0) with
    |false=>exact⟨.x c,rfl⟩
    |true=>
     obtain⟨m,m1,m2,m3⟩:=take_at h (eq_of_beq e3)
     rw [cond_true,cond_true]
     dsimp only
     rw [m2,show(((m+1:Nat):Int)-1).toNat=m by omega]
     have hnin:¬inL (c.ls.getD t l0) ((m+1:Nat):Int):=λhx=>by
      obtain⟨n,u,k1,k2,k3,k4⟩:=h.mem t _ ht hx
      have :n=m:=by omega
      subst this
      rw [m3] at k3;cases k3
     refine⟨⟨rfl,rfl,s1,rfl,?_,rfl,rfl⟩,rfl⟩
     show c.ls.set t (aMB (c.ls.getD t l0) ((m+1:Nat):Int) _).1=c.ls.set t (aAE (c.ls.getD t l0) ((m+1:Nat):Int) _).1
     rw [addP_F _ hnin]
end Go.Proofs.YtmhapcbjjpadnaaGreat
namespace Go.Proofs.YtmhapcbjjpadnaaGreat
open Go Go.Sk Go.RowKit
theorem mZ.ok {a b:Dc} (s:mZ a b)(h:Ok b):Ok a:=by
 obtain⟨fl,fr,za,gr,ls,ck,pt⟩:=a
 obtain⟨fl2,fr2,zb,gr2,ls2,ck2,pt2⟩:=b
 obtain⟨e1,e2,e3,e4,e5,e6,e7⟩:=s
 dsimp only at e1 e2 e3 e4 e5 e6 e7
 subst e1 e2 e4 e5 e6 e7
 refine⟨h.nf,h.nr,h.ng,h.nl,h.nk,h.file,λn u hn hu=>?_,h.ent,by rw [show bF za=bF zb from e3.check];exact h.zone,λz hz x hx=>?_,h.gr,h.ls,h.mem,h.ck,h.pt⟩
 ·have k:=h.use n u hn hu
  exact⟨k.file,k.page,k.pg,k.ten,k.holds,k.rd,k.wr,k.val⟩
 ·have hm:gF z∈za.map gF:=List.mem_map_of_mem hz
  rw [show za.map gF=zb.map gF from e3] at hm
  obtain⟨w,hw,e⟩:=List.mem_map.1 hm
  have e:w.free=z.free:=by
   unfold gF at e
   rw [Zn.mk.injEq] at e
   exact e.2.2.2.2.2.1
  exact h.free w hw x (by rw [e];exact hx)
def aWL(c:Dc)(f off n p:Nat):Dc:=bif oZ c f off n p then(match eA c f p with |some x=>((c.bl f p).goneP x.1 x.2 0).e0 f p |none=>(c.bl f p).e0 f p) else
 match eA c f p with |some x=>c.put x.1 (dQ x.2 (dP x.2.p (aO p off n).1 (zB (aO p off n).2)))|none=>c
def kH(c:Dc)(f off n:Nat):Nat->Dc
 |0=>c
 |k+1=>aWL (kH c f off n k) f off n (off/16+k)
theorem mZ.pg {a b:Dc} (s:mZ a b)(f p:Nat):eA a f p=eA b f p:=by unfold eA;rw [s.fl,s.fr]
end Go.Proofs.YtmhapcbjjpadnaaGreat
namespace Go.Proofs.YtmhapcbjjpadnaaGreat
open Go Go.Sk Go.RowKit
def r1F(c:Dc)(m:Nat)(u:Us):Dc:=bif u.rd != 0 then(reG c ((m+1:Nat):Int) (rT u.file u.page) true).1 else c
def r2F(c:Dc)(m:Nat)(u:Us):Dc:=bif u.wr != 0 then(enG (r1F c m u) ((m+1:Nat):Int) 0).1 else r1F c m u
def r3F(c:Dc)(m:Nat)(u:Us):Dc:=(aCM (r2F c m u) ((m+1:Nat):Int) (0- (u.holds:Int))).1
def r4F(c:Dc)(m:Nat)(u:Us):Dc:=bif (bgG (r3F c m u) ((m+1:Nat):Int)).2==0 then(enG (bgG (r3F c m u) ((m+1:Nat):Int)).1 ((m+1:Nat):Int) 0).1 else r3F c m u
def rest1(c:Dc)(m:Nat):Dc:=match c.fr.getD m none with
 |none=>c
 |some u=>r4F c m u
def restL(c:Dc):Nat->Dc
 |0=>c
 |k+1=>rest1 (restL c k) k
theorem r1_stp(c:Dc)(m:Nat)(u:Us):oP c (r1F c m u):=by
 unfold r1F
 cases(u.rd != 0) with
 |true=>exact .re _ _ _ _
 |false=>exact .refl _
theorem r2_stp(c:Dc)(m:Nat)(u:Us):oP c (r2F c m u):=by
 unfold r2F
 cases(u.wr != 0) with
 |true=>exact(r1_stp c m u).trans (.en _ _ _)
 |false=>exact r1_stp c m u
theorem r3_stp(c:Dc)(m:Nat)(u:Us):oP c (r3F c m u):=(r2_stp c m u).trans (.hol _ _ _)
theorem r4_stp(c:Dc)(m:Nat)(u:Us):oP c (r4F c m u):=by
 unfold r4F
 cases((bgG (r3F c m u) ((m+1:Nat):Int)).2==0) with
 |true=>exact(r3_stp c m u).trans ((oP.bg _ _).trans (.en _ _ _))
 |false=>exact r3_stp c m u
theorem rest1_stp(c:Dc)(m:Nat):oP c (rest1 c m):=by
 unfold rest1
 split
 ·exact .refl _
 ·exact r4_stp _ _ _
theorem restL_stp(c:Dc):∀k,oP c (restL c k)
 |0=>.refl _
 |k+1=>(restL_stp c k).trans (rest1_stp _ _)
noncomputable def R69:Rsv Tryz.prog Tryz.f69 [] 1:=⟨_,_,rfl,rfl⟩
theorem ok69(c:Dc)(h:Ok c):aM Tryz.prog 69 [] [.agg c.c] (.agg (restL c c.fr.length).c) []:=by
 have hnr:=h.nr
 refine bE R69 (ob0:= []) Tryz.func69 rfl rfl rfl ?_
 refine Wy ?_
 refine Lp (λi:Nat=>i<=c.fr.length) (λi=> [(3,.int .i64 ((i+1:Nat):Int))]) (λi=> [(0,.box (restL c i).c)]) (λi=>c.fr.length-i) 0 (Nat.zero_le _) ?_ ?_
 ·exact Vr [_,_]
 intro i hi
 obtain⟨o1,sh1⟩:=(restL_stp c i).sh h
 have hst:restL c (i+1)=rest1 (restL c i) i:=rfl
 unfold rest1 at hst
 generalize hd:restL c i=d at *
 have hfl:=sh1.fr
 refine Wy ?_
 refine fP (λb=>?_) (λb=>?_)
 ·have b:i<d.fr.length:=by omega
  have hg:=cH d.fr i b
  cases hu:d.fr.getD i none with
  |none=>
   rw [hu] at hst hg
   have hg:(aV d.fr).getD i []=fre.c:=hg
   refine Wy ?_
   refine Le (i+1) (hv:=?_)
   simp only [hst]
   exact Vr [_,_]
  |some u=>
   rw [hu] at hst hg
   dsimp only at hst
   have hg:(aV d.fr).getD i []=u.c:=hg
   have ku:=o1.use i u b hu
   have kf:=ku.file
   have knf:=o1.nf
   have kp:=ku.page
   have kh:=ku.holds
   have k160:=bB0 u.file u.page (by omega) (by omega)
   have k50:=aVF d o1 ((i+1:Nat):Int) (rT u.file u.page) true
   have k177:=aNH (r1F d i u) ((r1_stp d i u).sh o1).1 ((i+1:Nat):Int) 0
   have k45:=bJF (r2F d i u) ((r2_stp d i u).sh o1).1 ((i+1:Nat):Int) (0- (u.holds:Int))
   obtain⟨x1,x2,x3,x4,x5,x6,k178⟩:=bE9 (r3F d i u) ((r3_stp d i u).sh o1).1 ((i+1:Nat):Int)
   have k177b:=aNH (bgG (r3F d i u) ((i+1:Nat):Int)).1 (bCW ((r3_stp d i u).sh o1).1 _) ((i+1:Nat):Int) 0
   unfold r4F at hst
   have e3:(aCM (r2F d i u) ((i+1:Nat):Int) (0- (u.holds:Int))).1=r3F d i u:=rfl
   rw [e3] at k45
   generalize(aCM (r2F d i u) ((i+1:Nat):Int) (0- (u.holds:Int))).2=y3 at *
   generalize bgG (r3F d i u) ((i+1:Nat):Int)=q4 at *
   obtain⟨d4,y4⟩:=q4
   dsimp only at *
   generalize enG d4 ((i+1:Nat):Int) 0=q5 at *
   obtain⟨d5,y5⟩:=q5
   generalize r3F d i u=d3 at *
   dsimp only at *
   have hr1:r1F d i u=bif u.rd != 0 then(reG d ((i+1:Nat):Int) (rT u.file u.page) true).1 else d:=rfl
   have hr2:r2F d i u=bif u.wr != 0 then(enG (r1F d i u) ((i+1:Nat):Int) 0).1 else r1F d i u:=rfl
   generalize r2F d i u=d2 at *
   generalize enG (r1F d i u) ((i+1:Nat):Int) 0=q2 at *
   obtain⟨d2',y2⟩:=q2
   generalize r1F d i u=d1 at *
   generalize reG d ((i+1:Nat):Int) (rT u.file u.page) true=q1 at *
   obtain⟨d1',y1⟩:=q1
   generalize rT u.file u.page=D at *
   dsimp only at *
   clear e3 ku hd sh1 o1
   by_cases a1:u.rd=0
   ·rw [show(u.rd != 0)=false from bne_eq_false_iff_eq.2 a1,cond_false] at hr1
    subst hr1
    by_cases a2:u.wr=0
    ·rw [show(u.wr != 0)=false from bne_eq_false_iff_eq.2 a2,cond_false] at hr2
     subst hr2
     by_cases a3:y4=0
     ·rw [beq_iff_eq.2 a3,cond_true] at hst
      refine Wy ?_
      refine Le (i+1) (hv:=?_)
      simp only [hst]
      exact Vr [_,_]
     ·rw [beq_eq_false_iff_ne.2 a3,cond_false] at hst
      refine Wy ?_
      refine Le (i+1) (hv:=?_)
      simp only [hst]
      exact Vr [_,_]
    ·rw [show(u.wr != 0)=true from bne_iff_ne.2 a2,cond_true] at hr2
     subst hr2
     by_cases a3:y4=0
     ·rw [beq_iff_eq.2 a3,cond_true] at hst
      refine Wy ?_
      refine Le (i+1) (hv:=?_)
      simp only [hst]
      exact Vr [_,_]
     ·rw [beq_eq_false_iff_ne.2 a3,cond_false] at hst
      refine Wy ?_
      refine Le (i+1) (hv:=?_)
      simp only [hst]
      exact Vr [_,_]
   ·rw [show(u.rd != 0)=true from bne_iff_ne.2 a1,cond_true] at hr1
    subst hr1
    by_cases a2:u.wr=0
    ·rw [show(u.wr != 0)=false from bne_eq_false_iff_eq.2 a2,cond_false] at hr2
     subst hr2
     by_cases a3:y4=0
     ·rw [beq_iff_eq.2 a3,cond_true] at hst
      refine Wy ?_
      refine Le (i+1) (hv:=?_)
      simp only [hst]
      exact Vr [_,_]
     ·rw [beq_eq_false_iff_ne.2 a3,cond_false] at hst
      refine Wy ?_
      refine Le (i+1) (hv:=?_)
      simp only [hst]
      exact Vr [_,_]
    ·rw [show(u.wr != 0)=true from bne_iff_ne.2 a2,cond_true] at hr2
     subst hr2
     by_cases a3:y4=0
     ·rw [beq_iff_eq.2 a3,cond_true] at hst
      refine Wy ?_
      refine Le (i+1) (hv:=?_)
      simp only [hst]
      exact Vr [_,_]
     ·rw [beq_eq_false_iff_ne.2 a3,cond_false] at hst
      refine Wy ?_
      refine Le (i+1) (hv:=?_)
      simp only [hst]
      exact Vr [_,_]
 ·obtain rfl:i=c.fr.length:=by omega
  rw [hd]
  exact jR
end Go.Proofs.YtmhapcbjjpadnaaGreat
namespace Go.Proofs.YtmhapcbjjpadnaaGreat
open Go Go.Sk Go.RowKit
def yB(l:List Pt)(f:Int):Nat->Bool
 |0=>false
 |i+1=>bif (l.getD i p0).frame==f then(bif yB l f i then true else(l.getD i p0).acc) else yB l f i
theorem ok98(l:List Pt)(f:Int)(hc:kQ l=true)(hl:l.length<=100000):aM Tryz.prog 98 [] [.lst 5 false (aY l),.int .i64 f] (.tup [.lst 5 false (aY (l.map (bPJ f))),.bool (yB l f l.length)]) []:=by
 have k202:=aUV l false hl
 rw [hc] at k202
 refine aK (ob0:= []) [] Tryz.func98 rfl rfl rfl rfl ?_
 refine Wy ?_
 refine Lp (λi:Nat=>i<=l.length) (λi=> [(8,.int .i64 (i:Int)),(7,.bool (yB l f i))]) (λi=> [(0,.row 5 (aY (oI (bPJ f) l i)))]) (λi=>l.length-i) 0 (Nat.zero_le _) ?_ ?_
 ·rw [aGD];exact Vr [_]
 intro i hi
 refine Wy ?_
 refine fP (λb=>?_) (λb=>?_)
 ·have b:i<l.length:=by omega
  have hg:=iX (oI (bPJ f) l i) i (by rw [vN];exact b)
  rw [aEB _ _ _ _ b] at hg
  have hs:=aAX (bPJ f) l i p0 b
  have hm:=aRH (bPJ f) l i p0 b
  have hp:bPJ f (l.getD i p0)=bif (l.getD i p0).frame==f then⟨(l.getD i p0).proc,(l.getD i p0).page,(l.getD i p0).frame,(l.getD i p0).wr,false⟩ else l.getD i p0:=rfl
  have hy:yB l f (i+1)=bif (l.getD i p0).frame==f then(bif yB l f i then true else(l.getD i p0).acc) else yB l f i:=rfl
  generalize l.getD i p0=x at *
  generalize yB l f i=y at *
  refine Wy ?_
  refine aC (λc=>?_) (λc=>?_)
  ·rw [c,cond_true] at hp hy
   cases y with
   |true=>
    rw [cond_true] at hy
    refine Wy ?_
    refine Le (i+1) (hv:=?_)
    simp only [hs,hp,hy,<-aGV]
    exact Vr [_]
   |false=>
    rw [cond_false] at hy
    refine Wy ?_
    refine Le (i+1) (hv:=?_)
    simp only [hs,hp,hy,<-aGV]
    exact Vr [_]
  ·rw [c,cond_false] at hp hy
   refine Wy ?_
   refine Le (i+1) (hv:=?_)
   simp only [hm hp,hy]
   exact Vr [_]
 obtain rfl:i=l.length:=by omega
 rw [aKO]
 exact jR
theorem yng_ok {l:List Pt} (h:kQ l=true)(f:Int):kQ (l.map (bPJ f))=true:=by
 obtain⟨c1,c2⟩:=(lT l).1 h
 have hk:∀p,dS (bPJ f p)=dS p:=λp=>by
  unfold bPJ
  cases(p.frame==f)<;> rfl
 have hr:∀p,eC (bPJ f p)=eC p:=λp=>by
  unfold bPJ
  cases(p.frame==f)<;> rfl
 refine(lT _).2 ⟨λx hx=>?_,?_⟩
 ·obtain⟨y,hy,rfl⟩:=List.mem_map.1 hx
  rw [hr];exact c1 y hy
 ·rw [List.pairwise_map]
  exact c2.imp λh=>by rw [hk,hk];exact h
def excF(g:Gr):Int:=bif decide (g.chg<=g.pro) then 0 else g.chg-g.pro
theorem ok108(g:Gr)(h1:0<=g.chg/\g.chg<=64)(h2:0<=g.pro/\g.pro<=64):aM Tryz.prog 108 [] [.agg g.c] (.int .i64 (excF g)) []:=by
 unfold excF
 by_cases h:g.chg<=g.pro
 ·rw [decide_eq_true h]
  refine aK (ob0:= []) [] Tryz.func108 rfl rfl rfl rfl ?_
  exact jR
 ·rw [decide_eq_false h]
  refine aK (ob0:= []) [] Tryz.func108 rfl rfl rfl rfl ?_
  exact jR
def evaF(o:Option Us):Bool:=match o with |none=>false |some u=>bif mA u then(u.p.d:Int)==0 else false
theorem ok87(o:Option Us):aM Tryz.prog 87 [] [.agg (frC o)] (.bool (evaF o)) []:=by
 cases o with
 |none=>
  show aM Tryz.prog 87 [] [.agg fre.c] (.bool false) []
  refine aK (ob0:= []) [] Tryz.func87 rfl rfl rfl rfl ?_
  exact jR
 |some u=>
  have k28:=bEN u
  show aM Tryz.prog 87 [] [.agg u.c] (.bool (bif mA u then(u.p.d:Int)==0 else false)) []
  generalize mA u=y at *
  cases y with
  |true=>
   refine aK (ob0:= []) [] Tryz.func87 rfl rfl rfl rfl ?_
   exact jR
  |false=>
   refine aK (ob0:= []) [] Tryz.func87 rfl rfl rfl rfl ?_
   exact jR
end Go.Proofs.YtmhapcbjjpadnaaGreat
namespace Go.Proofs.YtmhapcbjjpadnaaGreat
open Go Go.Sk Go.RowKit
def ageL(c:Dc):Nat->Dc
 |0=>c
 |k+1=>match c.fr.getD k none with
  |some u=>bif yB (ageL c k).pt ((k+1:Nat):Int) (ageL c k).pt.length then((ageL c k).acc k u.ten).pts ((ageL c k).pt.map (bPJ ((k+1:Nat):Int))) else ageL c k
  |none=>ageL c k
theorem ageL_ok {c:Dc} (h:Ok c):∀k,Ok (ageL c k)
 |0=>h
 |k+1=>by
  have ih:=ageL_ok h k
  rw [ageL]
  split
  ·cases yB (ageL c k).pt ((k+1:Nat):Int) (ageL c k).pt.length with
   |true=>exact(ih.acc _ _).pts (yng_ok ih.pt _)
   |false=>exact ih
  ·exact ih
theorem ageL_eq(c:Dc):∀k,ageL c k=⟨c.fl,c.fr,c.zo,c.gr,(ageL c k).ls,c.ck,(ageL c k).pt⟩/\(ageL c k).ls.length=c.ls.length
 |0=>⟨rfl,rfl⟩
 |k+1=>by
  obtain⟨i1,i2⟩:=ageL_eq c k
  rw [ageL]
  split
  ·cases yB (ageL c k).pt ((k+1:Nat):Int) (ageL c k).pt.length with
   |true=>
    refine⟨?_,?_⟩
    ·rw [cond_true,i1];rfl
    ·show(List.set _ _ _).length=_
     rw [List.length_set];exact i2
   |false=>exact⟨i1,i2⟩
  ·exact⟨i1,i2⟩
noncomputable def R20:Rsv Tryz.prog Tryz.f20 [] 1:=⟨_,_,rfl,rfl⟩
theorem ok20(c:Dc)(h:Ok c):aM Tryz.prog 20 [] [.agg c.c] (.agg (ageL c c.fr.length).c) []:=by
 have k85:=aL1 c h.sm
 have hnr:=h.nr
 unfold Dc.o Dc.ob at k85
 refine bE R20 (ob0:= []) Tryz.func20 rfl rfl rfl ?_
 refine Wy ?_
 refine Lp (λi:Nat=>i<=c.fr.length) (λi=> [(4,.int .i64 ((i+1:Nat):Int))]) (λi=> [(5,.row 3 (bW (ageL c i).ls)),(7,.box [.sl 2 0 c.fl.length,.sl 3 0 c.fr.length,.lst 6 false (aQ c.zo),.sl 4 0 c.gr.length,.sl 5 0 c.ls.length,.sl 6 0 c.ck.length,.lst 5 false (aY (ageL c i).pt)])]) (λi=>c.fr.length-i) 0 (Nat.zero_le _) ?_ ?_
 ·exact Vr [some 0,some 1,some 2,some 3,some 4,some 5,some 6,some 18]
 intro i hi
 refine Wy ?_
 obtain⟨e1,e2⟩:=ageL_eq c i
 refine fP (λb=>?_) (λb=>?_)
 ·have b:i<c.fr.length:=by omega
  have o1:=ageL_ok h i
  have hgt:∀t,eL ((ageL c i).ls.getD t l0):=λt=>o1.smL t
  have hpt:=o1.pt
  have hpl:=o1.ptl
  have k98:=ok98 (ageL c i).pt ((i+1:Nat):Int) hpt hpl
  have hst:ageL c (i+1)=match c.fr.getD i none with
   |some u=>bif yB (ageL c i).pt ((i+1:Nat):Int) (ageL c i).pt.length then((ageL c i).acc i u.ten).pts ((ageL c i).pt.map (bPJ ((i+1:Nat):Int))) else ageL c i
   |none=>ageL c i:=rfl
  have hg:=cH c.fr i b
  have k70:=aB4 c ((i+1:Nat):Int) h.sm
  cases hu:c.fr.getD i none with
  |none=>
   rw [hu] at hst hg
   have hg:(aV c.fr).getD i []=fre.c:=hg
   have k70:aM Tryz.prog 70 [] [.agg c.c,.int .i64 ((i+1:Nat):Int)] (.bool false) []:=by
    have :gC c ((i+1:Nat):Int)=false:=by
     unfold gC
     rw [decide_eq_true (show(1:Int)<=((i+1:Nat):Int) by omega),decide_eq_true (show((i+1:Nat):Int)<=(c.fr.length:Int) by omega),show(((i+1:Nat):Int)-1).toNat=i by omega,hu]
     rfl
    rwa [this] at k70
   dsimp only at hst
   generalize yB (ageL c i).pt ((i+1:Nat):Int) (ageL c i).pt.length=y at *
   generalize((ageL c i).pt.map (bPJ ((i+1:Nat):Int)))=P at *
   cases y with
   |true=>
    refine Wy ?_
    refine Le (i+1) (hv:=?_)
    simp only [hst]
    exact Vr [some 0,some 1,some 2,some 3,some 4,some 5,some 6,some 7]
   |false=>
    refine Wy ?_
    refine Le (i+1) (hv:=?_)
    simp only [hst]
    exact Vr [some 0,some 1,some 2,some 3,some 4,some 5,some 6,some 7]
  |some u=>
   rw [hu] at hst hg
   have hg:(aV c.fr).getD i []=u.c:=hg
   have ku:=h.use i u b hu
   have k70:=h.use70 b hu
   have htn:u.ten< (ageL c i).ls.length:=by rw [e2,h.nl];exact ku.ten
   have hgl:=kD (ageL c i).ls u.ten htn
   have k99:=bMY ((ageL c i).ls.getD u.ten l0) ((i+1:Nat):Int) (hgt _)
   dsimp only at hst
   have hls:(((ageL c i).acc i u.ten).pts ((ageL c i).pt.map (bPJ ((i+1:Nat):Int)))).ls=(ageL c i).ls.set u.ten (mW ((ageL c i).ls.getD u.ten l0) ((i+1:Nat):Int)).1:=rfl
   have hps:(((ageL c i).acc i u.ten).pts ((ageL c i).pt.map (bPJ ((i+1:Nat):Int)))).pt=((ageL c i).pt.map (bPJ ((i+1:Nat):Int))):=rfl
   generalize(((ageL c i).acc i u.ten).pts ((ageL c i).pt.map (bPJ ((i+1:Nat):Int))))=A at *
   generalize yB (ageL c i).pt ((i+1:Nat):Int) (ageL c i).pt.length=y at *
   generalize((ageL c i).pt.map (bPJ ((i+1:Nat):Int)))=P at *
   cases y with
   |true=>
    rw [cond_true] at hst
    refine Wy ?_
    refine Le (i+1) (hv:=?_)
    simp only [hst,hls,hps,<-pR]
    exact Vr [some 0,some 1,some 2,some 3,some 4,some 5,some 6,some 7]
   |false=>
    rw [cond_false] at hst
    refine Wy ?_
    refine Le (i+1) (hv:=?_)
    simp only [hst]
    exact Vr [some 0,some 1,some 2,some 3,some 4,some 5,some 6,some 7]
 obtain rfl:i=c.fr.length:=by omega
 rw [e1]
 unfold Dc.c
 dsimp only
 exact jR
end Go.Proofs.YtmhapcbjjpadnaaGreat
