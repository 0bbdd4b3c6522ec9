/- Caches. -/
import Derived.Test.YtmhapcbjjpadnaaGreatG2b
import Derived.Shelf.Spec.SlicesInsertGrow
set_option linter.all false
set_option maxHeartbeats 1000000
set_option maxRecDepth 40000
open Array renaming getElem?_append_left→zK,getElem?_push→zT
open Bool renaming cond_false_right→zA,cond_true_left→zC,not_eq_false'→zD,not_eq_true'→zE,not_not→zG,or_eq_false_iff→zS
open Int renaming toNat_natCast→zF
open List renaming length_append→zH,takeWhile_cons→zI,getD_eq_getElem?_getD→zJ,drop_eq_getElem_cons→zL,getElem?_cons_succ→zM,getElem?_cons_zero→zN,map_append→zQ,getD_cons_zero→zU,mem_map→zV,getElem?_map→zW,length_cons→zX,getElem_mem→zY
open Nat renaming zero_add→zP
open Option renaming map_eq_some_iff→zO
namespace Go.Proofs.YtmhapcbjjpadnaaGreat
open Go Go.Sk Go.RowKit
def mM(a b:Int):List Int:=(List.range (b-a).toNat).map λ(i:Nat)=>a+i
theorem aF5(a b:Int):(mM a b).length=(b-a).toNat:=by simp [mM]
theorem aLH(a b:Int)(h:b<=a):mM a b=[]:=by
 have :(b-a).toNat=0:=by omega
 simp [mM,this]
theorem aH0(a b:Int)(h:a<=b):mM a (b+1)=mM a b++ [b]:=by
 have :(b+1-a).toNat=(b-a).toNat+1:=by omega
 rw [mM,mM,this,List.range_succ,zQ]
 congr 1
 simp only [List.map_cons,List.map_nil,List.cons.injEq,and_true]
 omega
theorem aKR(a b x:Int):x∈mM a b↔a<=x/\x<b:=by
 simp only [mM,zV,List.mem_range]
 constructor
 ·rintro ⟨i,h,rfl⟩;omega
 ·rintro ⟨h1,h2⟩;exact⟨(x-a).toNat,by omega,by omega⟩
theorem fW(l:List Int)(x:Int):aE l++ [[.int .i64 x]]=aE (l++ [x]):=by rw [aE,aE,zQ];rfl
theorem aF2(l:List Zn)(z:Zn):aQ l++ [z.c]=aQ (l++ [z]):=by rw [aQ,aQ,zQ];rfl
def rU(n k:Int):Int:=IntKind.i64.wrap (n.tdiv k)
def mkZ(f n:Int):Zn:=⟨f,n,rU n 8,rU n 4,rU n 2,mM f (f+n),false⟩
def aCK(f n:Int):Bool:=(decide (n<1)||decide (64<n))||decide (65<IntKind.i64.wrap (f+n))
def newR(f:Int):List Int->Option (List Zn)
 | []=>some []
 |n::r=>bif aCK f n then none else(newR (f+n) r).map (mkZ f n:: ·)
def newF(s:List Int):List Zn×Int:=bif (s.length:Int)==0 then([],1) else match newR 1 s with
 |none=>([],2)
 |some l=>(l,0)
structure aDC(s:List Int)(i:Nat)(f:Int)(acc:List Zn):Prop where
 le:i<=s.length
 len:acc.length<=i
 pos:1<=f/\f<=65
 res:newR 1 s=(newR f (s.drop i)).map (acc++ ·)
theorem sY {f n:Int} (hf:1<=f/\f<=65)(h:aCK f n=false):1<=n/\n<=64/\f+n<=65/\IntKind.i64.wrap (f+n)=f+n:=by
 simp only [aCK,zS,decide_eq_false_iff_not] at h
 have :IntKind.i64.wrap (f+n)=f+n:=aR (by omega) (by omega)
 omega
theorem aDC.bad {s:List Int} {i:Nat} {f:Int} {acc:List Zn} (h:aDC s i f acc)(hi:i<s.length)(hb:aCK f s[i]=true):newR 1 s=none:=by
 rw [h.res,zL hi,newR,hb];rfl
theorem aDC.next {s:List Int} {i:Nat} {f:Int} {acc:List Zn} (h:aDC s i f acc)(hi:i<s.length)(hb:aCK f s[i]=false):aDC s (i+1) (f+s[i]) (acc++ [mkZ f s[i]]):=by
 obtain⟨a1,a2,a3,a4⟩:=sY h.pos hb
 have :=h.pos
 first |refine aB (by omega) (bG (by have :=h.len;simp;omega) (by omega) ?_)|refine aB ⟨by omega,by have :=h.len;simp;omega,by omega⟩ ?_ |refine⟨by omega,by have :=h.len;simp;omega,by omega,?_⟩
 rw [h.res,zL hi,newR,hb,cond_false,Option.map_map]
 congr 1
 funext r
 simp
theorem aDC.done {s:List Int} {i:Nat} {f:Int} {acc:List Zn} (h:aDC s i f acc)(hi:i=s.length):newR 1 s=some acc:=by
 rw [h.res,hi,List.drop_length,newR];simp
theorem bHI(s:List Int)(t:Bool)(hs:s.length<=100000):aM Tryz.prog 130 [] [.lst 1 t (aE s)] (.tup [.lst 6 false (aQ (newF s).1),.int .i64 (newF s).2]) []:=by
 refine aF (ob0:= []) [.p 40] Tryz.func130 rfl rfl rfl rfl ?_
 generalize hk:newF s=q
 refine Wk ?_
 rw [aA]
 refine aC (λh1=>?_) (λh1=>?_)<;> try simp only [zC,zA,zE,zD,zG] at h1
 ·simp only [newF,h1,cond_true] at hk
  subst hk
  refine Wk ?_
  try subst hk
  exact Lf
 simp only [newF,h1,cond_false] at hk
 refine Wk ?_
 rw [aA]
 refine⟨Nat×Int×List Zn,λp=>aDC s p.1 p.2.1 p.2.2,λp=>⟨[(4,⟨[],true,.sl 0 0 p.2.2.length⟩),(5,⟨[],true,.int .i64 p.2.1⟩),(13,⟨[],true,.lst 1 t (aE s)⟩),(14,⟨[],true,.int .i64 (s.length:Int)⟩),(15,⟨[],true,.int .i64 (p.1:Int)⟩)],[(0,.row 6 (aQ p.2.2))],1⟩,λp=>s.length-p.1,⟨(0,1,[]),⟨by simp,by simp,by decide,by simp⟩,?_⟩,λp hI=>?_⟩
 ·exact Vw [none]
 obtain⟨i,f,acc⟩:=p
 have hI:aDC s i f acc:=hI
 have hle:=hI.le
 have hpos:=hI.pos
 have hal:=hI.len
 refine Wk ?_
 refine aC (λh3=>?_) (λh3=>?_)<;> try simp only [zC,zA,zE,zD,zG] at h3
 ·have h3:i<s.length:=by simp at h3;omega
  refine Wk ?_
  first |refine aB (⟨rfl,by omega,by rw [aA];omega⟩) ?_ |refine aH (λ_=>⟨rfl,by omega,by rw [aA];omega⟩) ?_ |refine⟨λ_=>⟨rfl,by omega,by rw [aA];omega⟩,?_⟩
  rw [zF,bN s i h3]
  have hbad:=hI.bad h3
  have hnext:=hI.next h3
  generalize s[i]=n at hbad hnext
  refine Wk ?_
  refine aC (λh4=>?_) (λh4=>?_)<;> try simp only [zC,zA,zE,zD,zG] at h4
  ·have h4:aCK f n=true:=h4
   rw [hbad h4] at hk
   subst hk
   refine Wk ?_
   try subst hk
   exact Lf
  have h4:aCK f n=false:=h4
  obtain⟨a1,a2,a3,a4⟩:=sY hpos h4
  have hnext:=hnext h4
  refine Wk ?_
  try first |refine aB (by decide) ?_ |refine aH (λ_=>by decide) ?_ |refine⟨λ_=>by decide,?_⟩
  refine Wk ?_
  try first |refine aB (by decide) ?_ |refine aH (λ_=>by decide) ?_ |refine⟨λ_=>by decide,?_⟩
  refine Wk ?_
  try first |refine aB (by decide) ?_ |refine aH (λ_=>by decide) ?_ |refine⟨λ_=>by decide,?_⟩
  refine Wk ?_
  refine⟨Unit,λ_=>True,λ_=>⟨[(4,⟨[],true,.sl 0 0 acc.length⟩),(5,⟨[],true,.int .i64 f⟩),(7,⟨[],true,.int .i64 n⟩),(8,⟨[],true,.ptr 1 0 0⟩),(13,⟨[],true,.lst 1 t (aE s)⟩),(14,⟨[],true,.int .i64 (s.length:Int)⟩),(15,⟨[],true,.int .i64 (i:Int)⟩)],
   [(0,.row 6 (aQ acc)),(1,.box (mkZ f n).c)],2⟩,?_,λ_ _=>?_⟩
  ·refine Wk ?_
   refine⟨Nat×List Int,λy=>(y.1:Int)<=n/\y.2=mM f (f+y.1),λy=>⟨[(4,⟨[],true,.sl 0 0 acc.length⟩),(5,⟨[],true,.int .i64 f⟩),(7,⟨[],true,.int .i64 n⟩),(8,⟨[],true,.ptr 1 0 0⟩),(9,⟨[],true,.int .i64 (f+(y.1:Int))⟩),(13,⟨[],true,.lst 1 t (aE s)⟩),(14,⟨[],true,.int .i64 (s.length:Int)⟩),(15,⟨[],true,.int .i64 (i:Int)⟩)],
    [(0,.row 6 (aQ acc)),(1,.box [.int .i64 f,.int .i64 n,.int .i64 (rU n 8),.int .i64 (rU n 4),.int .i64 (rU n 2),.sl 2 0 y.2.length]),(2,.row 1 (aE y.2))],3⟩,λy=>100-y.1,⟨(0,[]),⟨by simp;omega,by rw [aLH _ _ (by simp)]⟩,?_⟩,λy hy=>?_⟩
   ·refine bX [some 0,some 1,none] rfl rfl ?_ rfl ?_ rfl ?_
    repeat' (first |exact trivial |rfl |exact .inl rfl |exact .inr rfl |exact id |exact(λh=>Bool.noConfusion h)|refine And.intro ?_ ?_)
    exact(Int.add_zero _).symm
   obtain⟨k,out⟩:=y
   obtain⟨hy1,hy2⟩:=hy
   simp only at hy1 hy2
   have hlen:out.length=k:=by rw [hy2,aF5];omega
   have hw1:IntKind.i64.wrap (f+(k:Int)+1)=f+((k+1:Nat):Int):=by rw [aR (by omega) (by omega)];omega
   refine Wk ?_
   rw [a4]
   refine aC (λh5=>?_) (λh5=>?_)<;> try simp only [zC,zA,zE,zD,zG] at h5
   ·have h5:(k:Int)<n:=by simp at h5;omega
    refine Wk ?_
    refine aB (aA out).symm ?_
    refine Wk ?_
    refine bG ?_ ?_ ?_
    ·show(((aE out).length+1:Nat):Int)<=_
     rw [aA];omega
    ·show((aE out).length+1)*8<=_
     rw [aA];omega
    refine Wk ?_
    rw [hw1]
    refine⟨(k+1,mM f (f+((k+1:Nat):Int))),⟨by show((k+1:Nat):Int)<=_;omega,rfl⟩,?_,by show 100- (k+1)<100-k;omega⟩
    have hs1:mM f (f+((k+1:Nat):Int))=out++ [f+(k:Int)]:=by
     rw [show f+((k+1:Nat):Int)=f+(k:Int)+1 by omega,aH0 _ _ (by omega),hy2]
    rw [hs1]
    refine bX [some 0,some 1,some 4] rfl rfl ?_ rfl ?_ rfl ?_
    repeat' (first |exact trivial |rfl |exact .inl rfl |exact .inr rfl |exact id |exact(λh=>Bool.noConfusion h)|refine And.intro ?_ ?_)
    ·show(aE out).length+1=_
     rw [aA,zH];rfl
    ·exact fW out _
   have h5:(k:Int)=n:=by simp at h5;omega
   refine Wk ?_
   refine⟨(),trivial,?_⟩
   refine bX [some ?k143_0,some ?k143_1] rfl rfl ?h3_143 ?h4_143 ?h5_143 ?h6_143 ?h7_143
   case' h7_143=>repeat' (first |exact trivial |rfl |exact .inl rfl |exact .inr rfl |exact id |exact(λh=>Bool.noConfusion h)|refine And.intro ?_ ?_)
   case' h4_143=>rfl
   case' h6_143=>rfl
   case' h3_143=>repeat' (first |exact trivial |rfl |exact .inl rfl |exact .inr rfl |exact id |exact(λh=>Bool.noConfusion h)|refine And.intro ?_ ?_)
   case' h5_143=>repeat' (first |exact trivial |rfl |exact .inl rfl |exact .inr rfl |exact id |exact(λh=>Bool.noConfusion h)|refine And.intro ?_ ?_)
   ·show 0+out.length<=(aE out).length
    rw [aA];omega
   ·refine(dB (aA _)).trans ?_
    show aE out=aE (mM f (f+n))
    rw [hy2,h5]
  ·refine Wk ?_
   first |refine aB ((aG acc).symm) ?_ |skip
   conv=>whnf
   refine bG ?_ ?_ ?_
   ·show(((aQ acc).length+1:Nat):Int)<=_
    rw [aG];omega
   ·show((aQ acc).length+1)*64<=_
    rw [aG];omega
   refine Wk ?_
   rw [a4,aR (n:=(i:Int)+1) (by omega) (by omega),show((i:Int)+1)=((i+1:Nat):Int) by omega]
   refine⟨(i+1,f+n,acc++ [mkZ f n]),hnext,?_,by show s.length- (i+1)<s.length-i;omega⟩
   refine bX [some ?k165_0] rfl rfl ?h3_165 ?h4_165 ?h5_165 ?h6_165 ?h7_165
   case' h7_165=>repeat' (first |exact trivial |rfl |exact .inl rfl |exact .inr rfl |exact id |exact(λh=>Bool.noConfusion h)|refine And.intro ?_ ?_)
   case' h4_165=>rfl
   case' h6_165=>rfl
   case' h3_165=>repeat' (first |exact trivial |rfl |exact .inl rfl |exact .inr rfl |exact id |exact(λh=>Bool.noConfusion h)|refine And.intro ?_ ?_)
   case' h5_165=>repeat' (first |exact trivial |rfl |exact .inl rfl |exact .inr rfl |exact id |exact(λh=>Bool.noConfusion h)|refine And.intro ?_ ?_)
   ·exact aF2 acc (mkZ f n)
   ·show(aQ acc).length+1=_
    rw [aG,zH];rfl
 have h3:i=s.length:=by simp at h3;omega
 rw [hI.done h3] at hk
 subst hk
 refine Wk ?_
 refine⟨[],trivial,rfl,trivial,rfl,?_⟩
 try subst hk
 repeat' (first |exact trivial |rfl |exact .inl rfl |exact .inr rfl |exact id |exact(λh=>Bool.noConfusion h)|refine And.intro ?_ ?_)
 ·show 0+acc.length<=(aQ acc).length
  rw [aG];omega
 ·exact dB (aG _)
end Go.Proofs.YtmhapcbjjpadnaaGreat
namespace Go.Proofs.YtmhapcbjjpadnaaGreat
open Go Go.Sk Go.RowKit
theorem bH8(s:List Int)(t:Bool)(hs:s.length<=100000):aM Tryz.prog 113 [] [.lst 1 t (aE s)] (.tup [.lst 6 false (aQ (newF s).1),.int .i64 (newF s).2]) []:=by
 refine aF (ob0:= []) [.p 44] Tryz.func113 rfl rfl rfl rfl ?_
 generalize hk:newF s=q
 refine Wk ?_
 rw [aA]
 refine aC (λh1=>?_) (λh1=>?_)<;> try simp only [zC,zA,zE,zD,zG] at h1
 ·simp only [newF,h1,cond_true] at hk
  subst hk
  refine Wk ?_
  try subst hk
  exact Lf
 simp only [newF,h1,cond_false] at hk
 refine Wk ?_
 refine⟨Nat×Int×List Zn,λp=>aDC s p.1 p.2.1 p.2.2,λp=>⟨[(4,⟨[],true,.sl 0 0 p.2.2.length⟩),(5,⟨[],true,.int .i64 p.2.1⟩),(0,⟨[],true,.lst 1 t (aE s)⟩),(6,⟨[],true,.int .i64 (p.1:Int)⟩)],[(0,.row 6 (aQ p.2.2))],1⟩,λp=>s.length-p.1,⟨(0,1,[]),⟨by simp,by simp,by decide,by simp⟩,?_⟩,λp hI=>?_⟩
 ·exact Vw [none]
 obtain⟨i,f,acc⟩:=p
 have hI:aDC s i f acc:=hI
 have hle:=hI.le
 have hpos:=hI.pos
 have hal:=hI.len
 refine Wk ?_
 rw [aA]
 refine aC (λh3=>?_) (λh3=>?_)<;> try simp only [zC,zA,zE,zD,zG] at h3
 ·have h3:i<s.length:=by simp at h3;omega
  refine Wk ?_
  first |refine aB (⟨rfl,by omega,by rw [aA];omega⟩) ?_ |refine aH (λ_=>⟨rfl,by omega,by rw [aA];omega⟩) ?_ |refine⟨λ_=>⟨rfl,by omega,by rw [aA];omega⟩,?_⟩
  rw [zF,bN s i h3]
  have hbad:=hI.bad h3
  have hnext:=hI.next h3
  generalize s[i]=n at hbad hnext
  refine Wk ?_
  refine aC (λh4=>?_) (λh4=>?_)<;> try simp only [zC,zA,zE,zD,zG] at h4
  ·have h4:aCK f n=true:=h4
   rw [hbad h4] at hk
   subst hk
   refine Wk ?_
   try subst hk
   exact Lf
  have h4:aCK f n=false:=h4
  obtain⟨a1,a2,a3,a4⟩:=sY hpos h4
  have hnext:=hnext h4
  refine Wk ?_
  try first |refine aB (by decide) ?_ |refine aH (λ_=>by decide) ?_ |refine⟨λ_=>by decide,?_⟩
  refine Wk ?_
  try first |refine aB (by decide) ?_ |refine aH (λ_=>by decide) ?_ |refine⟨λ_=>by decide,?_⟩
  refine Wk ?_
  try first |refine aB (by decide) ?_ |refine aH (λ_=>by decide) ?_ |refine⟨λ_=>by decide,?_⟩
  refine Wk ?_
  refine⟨Unit,λ_=>True,λ_=>⟨[(4,⟨[],true,.sl 0 0 acc.length⟩),(5,⟨[],true,.int .i64 f⟩),(7,⟨[],true,.int .i64 n⟩),(8,⟨[],true,.ptr 1 0 0⟩),(0,⟨[],true,.lst 1 t (aE s)⟩),(6,⟨[],true,.int .i64 (i:Int)⟩)],
   [(0,.row 6 (aQ acc)),(1,.box (mkZ f n).c)],2⟩,?_,λ_ _=>?_⟩
  ·refine Wk ?_
   refine⟨Nat×List Int,λy=>(y.1:Int)<=n/\y.2=mM f (f+y.1),λy=>⟨[(4,⟨[],true,.sl 0 0 acc.length⟩),(5,⟨[],true,.int .i64 f⟩),(7,⟨[],true,.int .i64 n⟩),(8,⟨[],true,.ptr 1 0 0⟩),(9,⟨[],true,.int .i64 (f+(y.1:Int))⟩),(0,⟨[],true,.lst 1 t (aE s)⟩),(6,⟨[],true,.int .i64 (i:Int)⟩)],
    [(0,.row 6 (aQ acc)),(1,.box [.int .i64 f,.int .i64 n,.int .i64 (rU n 8),.int .i64 (rU n 4),.int .i64 (rU n 2),.sl 2 0 y.2.length]),(2,.row 1 (aE y.2))],3⟩,λy=>100-y.1,⟨(0,[]),⟨by simp;omega,by rw [aLH _ _ (by simp)]⟩,?_⟩,λy hy=>?_⟩
   ·refine bX [some 0,some 1,none] rfl rfl ?_ rfl ?_ rfl ?_
    repeat' (first |exact trivial |rfl |exact .inl rfl |exact .inr rfl |exact id |exact(λh=>Bool.noConfusion h)|refine And.intro ?_ ?_)
    exact(Int.add_zero _).symm
   obtain⟨k,out⟩:=y
   obtain⟨hy1,hy2⟩:=hy
   simp only at hy1 hy2
   have hlen:out.length=k:=by rw [hy2,aF5];omega
   have hw1:IntKind.i64.wrap (f+(k:Int)+1)=f+((k+1:Nat):Int):=by rw [aR (by omega) (by omega)];omega
   refine Wk ?_
   rw [a4]
   refine aC (λh5=>?_) (λh5=>?_)<;> try simp only [zC,zA,zE,zD,zG] at h5
   ·have h5:(k:Int)<n:=by simp at h5;omega
    refine Wk ?_
    first |refine aB ((aA out).symm) ?_ |skip
    conv=>whnf
    refine bG ?_ ?_ ?_
    ·show(((aE out).length+1:Nat):Int)<=_
     rw [aA];omega
    ·show((aE out).length+1)*8<=_
     rw [aA];omega
    refine Wk ?_
    rw [hw1]
    refine⟨(k+1,mM f (f+((k+1:Nat):Int))),⟨by show((k+1:Nat):Int)<=_;omega,rfl⟩,?_,by show 100- (k+1)<100-k;omega⟩
    have hs1:mM f (f+((k+1:Nat):Int))=out++ [f+(k:Int)]:=by
     rw [show f+((k+1:Nat):Int)=f+(k:Int)+1 by omega,aH0 _ _ (by omega),hy2]
    rw [hs1]
    refine bX [some 0,some 1,some 4] rfl rfl ?_ rfl ?_ rfl ?_
    repeat' (first |exact trivial |rfl |exact .inl rfl |exact .inr rfl |exact id |exact(λh=>Bool.noConfusion h)|refine And.intro ?_ ?_)
    ·show(aE out).length+1=_
     rw [aA,zH];rfl
    ·exact fW out _
   have h5:(k:Int)=n:=by simp at h5;omega
   refine Wk ?_
   refine⟨(),trivial,?_⟩
   refine bX [some ?k94_0,some ?k94_1] rfl rfl ?h3_94 ?h4_94 ?h5_94 ?h6_94 ?h7_94
   case' h7_94=>repeat' (first |exact trivial |rfl |exact .inl rfl |exact .inr rfl |exact id |exact(λh=>Bool.noConfusion h)|refine And.intro ?_ ?_)
   case' h4_94=>rfl
   case' h6_94=>rfl
   case' h3_94=>repeat' (first |exact trivial |rfl |exact .inl rfl |exact .inr rfl |exact id |exact(λh=>Bool.noConfusion h)|refine And.intro ?_ ?_)
   case' h5_94=>repeat' (first |exact trivial |rfl |exact .inl rfl |exact .inr rfl |exact id |exact(λh=>Bool.noConfusion h)|refine And.intro ?_ ?_)
   ·show 0+out.length<=(aE out).length
    rw [aA];omega
   ·refine(dB (aA _)).trans ?_
    show aE out=aE (mM f (f+n))
    rw [hy2,h5]
  ·refine Wk ?_
   first |refine aB ((aG acc).symm) ?_ |skip
   conv=>whnf
   refine bG ?_ ?_ ?_
   ·show(((aQ acc).length+1:Nat):Int)<=_
    rw [aG];omega
   ·show((aQ acc).length+1)*64<=_
    rw [aG];omega
   refine Wk ?_
   rw [a4,aR (n:=(i:Int)+1) (by omega) (by omega),show((i:Int)+1)=((i+1:Nat):Int) by omega]
   refine⟨(i+1,f+n,acc++ [mkZ f n]),hnext,?_,by show s.length- (i+1)<s.length-i;omega⟩
   refine bX [some ?k116_0] rfl rfl ?h3_116 ?h4_116 ?h5_116 ?h6_116 ?h7_116
   case' h7_116=>repeat' (first |exact trivial |rfl |exact .inl rfl |exact .inr rfl |exact id |exact(λh=>Bool.noConfusion h)|refine And.intro ?_ ?_)
   case' h4_116=>rfl
   case' h6_116=>rfl
   case' h3_116=>repeat' (first |exact trivial |rfl |exact .inl rfl |exact .inr rfl |exact id |exact(λh=>Bool.noConfusion h)|refine And.intro ?_ ?_)
   case' h5_116=>repeat' (first |exact trivial |rfl |exact .inl rfl |exact .inr rfl |exact id |exact(λh=>Bool.noConfusion h)|refine And.intro ?_ ?_)
   ·exact aF2 acc (mkZ f n)
   ·show(aQ acc).length+1=_
    rw [aG,zH];rfl
 have h3:i=s.length:=by simp at h3;omega
 rw [hI.done h3] at hk
 subst hk
 refine Wk ?_
 refine⟨[],trivial,rfl,trivial,rfl,?_⟩
 try subst hk
 repeat' (first |exact trivial |rfl |exact .inl rfl |exact .inr rfl |exact id |exact(λh=>Bool.noConfusion h)|refine And.intro ?_ ?_)
 ·show 0+acc.length<=(aQ acc).length
  rw [aG];omega
 ·exact dB (aG _)
end Go.Proofs.YtmhapcbjjpadnaaGreat
namespace Go.Proofs.YtmhapcbjjpadnaaGreat
open Go Go.Sk Go.RowKit Go.Shelf
def aL9:Ren:=⟨λ|21=>287 |27=>335 |28=>336 |35=>357 |39=>363 |n=>n,λn=>n,λn=>n⟩
theorem aHZ:Lays2.n21 Tryz.prog aL9 where
 mixed:=by kernel_rfl
 f21:=Tryz.func287.trans (congrArg some (by kernel_rfl))
 f27:=Tryz.func335.trans (congrArg some (by kernel_rfl))
 f28:=Tryz.func336.trans (congrArg some (by kernel_rfl))
 f35:=Tryz.func357.trans (congrArg some (by kernel_rfl))
 f39:=Tryz.func363.trans (congrArg some (by kernel_rfl))
 t0:=Tryz.underlying0
 a0:=Tryz.isAgg0
 z0:=Tryz.sizeOf0
 v0:=Tryz.zeroValue0
 t3:=Tryz.underlying3
 a3:=Tryz.isAgg3
 z3:=Tryz.sizeOf3
 v3:=Tryz.zeroValue3
 t4:=Tryz.underlying4
 a4:=Tryz.isAgg4
 z4:=Tryz.sizeOf4
 v4:=Tryz.zeroValue4
 t22:=Tryz.underlying22
 a22:=Tryz.isAgg22
 z22:=Tryz.sizeOf22
 v22:=Tryz.zeroValue22
 i3:=by kernel_rfl
def wrote:Array Value->Nat->List Value->Array Value
 |arr,_,[]=>arr
 |arr,o,v::r=>wrote (arr.setIfInBounds o v) (o+1) r
theorem mS:∀(vs:List Value) (o:Nat) (arr:Array Value),(wrote arr o vs).size=arr.size
 | [],_,_=>rfl
 |v::r,o,arr=>by rw [wrote,mS r];simp
theorem pT:∀(vs:List Value) (o:Nat) (arr:Array Value) (j:Nat),o+vs.length<=arr.size->(wrote arr o vs)[j]? =if o<=j/\j<o+vs.length then vs[j-o]? else arr[j]?
 | [],o,arr,j,_=>by simp [wrote];intro h1 h2;omega
 |v::r,o,arr,j,h=>by
  simp only [zX] at h
  rw [wrote,pT r (o+1) _ j (by simp;omega)]
  simp only [zX]
  by_cases h1:j=o
  ·subst h1
   rw [if_neg (by omega),if_pos (by omega),Array.getElem?_setIfInBounds_self_of_lt (by omega)]
   simp
  ·by_cases h2:o+1<=j/\j<o+1+r.length
   ·rw [if_pos h2,if_pos (by omega),show j-o=(j- (o+1))+1 by omega,zM]
   ·rw [if_neg h2,if_neg (by omega),Array.getElem?_setIfInBounds_ne (by omega)]
theorem iY(b:Nat):∀(vs:List Value) (o:Nat) (w:World),(w.setCells b o vs).os=w.os/\(w.setCells b o vs).tape=w.tape/\(w.setCells b o vs).output=w.output
 | [],_,_=>⟨rfl,rfl,rfl⟩
 |v::r,o,w=>iY b r (o+1) (w.setCell ⟨b,o,none⟩ v)
theorem oN(h:Array Go.Obj)(ty:TypeId):∀(vs:List Value) (o:Nat) (w:World) (arr:Array Value),w.heap=h.push (.cells arr ty)->(w.setCells h.size o vs).heap=h.push (.cells (wrote arr o vs) ty)
 | [],_,_,_,e=>e
 |v::r,o,w,arr,e=>by
  rw [World.setCells,wrote]
  refine oN h ty r (o+1) _ _ ?_
  unfold World.setCell
  dsimp only
  rw [e]
  apply Array.ext_getElem?
  intro j
  rw [Array.getElem?_modify,zT,zT]
  by_cases hj:j=h.size
  ·subst hj;simp
  ·rw [if_neg (by omega),if_neg hj,if_neg hj]
theorem aZ3(n:Int):(Value.int .i64 n).oneCell'=true:=rfl
def dD(l:List Int):List Value:=l.map λx=>.int .i64 x
def gQ(l:List Int)(i:Nat)(x:Int):List Int:=l.take i++x::l.drop i
theorem aU5 {O:Nat->Prop} {w:World} {σ:Sg} {t:Bool} {l:List Int} {v:Value} (h:VR O w σ (.lst 1 t (aE l)) v):
 ∃a cap b o,v=.slice a l.length cap/\(l≠ []->a=some ⟨b,o,none⟩/\¬O b/\b<w.heap.size)/\l.length<=cap/\(t=true->cap=l.length)/\(∀(j:Nat) (u:Value),(dD l)[j]? =some u->w.cell? ⟨b,o+j,none⟩=some u):=by
 cases h with
 | @lst _ _ _ _ a cap b o cv ha hes hcap ht h1 h3 h2=>
   rw [aA] at hcap ht
   refine⟨a,cap,b,o,by rw [aA],λhl=>ha (by cases l with |nil=>exact absurd rfl hl |cons _ _=>simp [aE]),hcap,ht,λj u hj=>?_⟩
   simp only [dD,zW,zO] at hj
   obtain⟨x,hx,rfl⟩:=hj
   obtain⟨hlt,hx'⟩:=List.getElem?_eq_some_iff.1 hx
   have :=h2 j [.int .i64 x] 0 (.int .i64 x) (by simp [aE,hx]) rfl
   have hc:=h1 j 0 (by rw [aA];exact hlt) (by omega)
   cases hq:cv j 0 with
   |int k n=>rw [hq] at this;cases this;rw [hq] at hc;simpa using hc
   |_=>rw [hq] at this;cases this
theorem aSU {O:Nat->Prop} {w w':World} {σ:Sg} {arr:Array Value} {ty:TypeId×Bool} (hm:lR w w' arr ty)(hO:¬O w.heap.size)(L:List Int)(cap:Nat)(hcap:L.length<=cap)(hg:∀(j:Nat) (u:Value),(dD L)[j]? =some u->arr[j]? =some u):
 VR O w' σ (.lst 1 false (aE L)) (.slice (some ⟨w.heap.size,0,none⟩) L.length cap):=by
 have hsz:w.heap.size<w'.heap.size:=by rw [hm.heap];simp
 rw [<-aA L]
 refine .lst w.heap.size 0 (λi _=>.int .i64 (L.getD i 0)) (λ_=>⟨rfl,hO,hsz⟩) (λx hx=>by simp only [aE,zV] at hx;obtain⟨y,-,rfl⟩:=hx;rfl) (by rw [aA];exact hcap) (λh=>by cases h) (λi c hi hc=>?_) (λ_ _ _ _=>rfl) λi x c y hx hy=>?_
 ·rw [aA] at hi
  obtain rfl:c=0:=by omega
  have h2:=hg i (.int .i64 (L.getD i 0)) (by simp [dD,hi])
  have hnew:=hm.new
  simp only [zP,Nat.mul_one,Nat.add_zero]
  rw [World.cell?,hnew]
  simpa using h2
 ·simp only [aE,zW,zO] at hx
  obtain⟨z,hz,rfl⟩:=hx
  cases c with
  |zero=>simp only [zN,Option.some.injEq] at hy;subst hy;simp [zJ,hz];exact .int _ _
  |succ c=>simp at hy
theorem aW.newBlock {U:Nat->Prop} {σ:Sg} {S:aD} {w w':World} {n:Nat} (hR:aW U σ S w n) {arr:Array Value} {ty:TypeId×Bool} (hm:lR w w' arr ty):bV σ S w n σ S w' n/\aW U σ S w' n:=by
 have g:bV σ S w n σ S w' n:=⟨hm.keep _,λb _ h=>h,λ_ _=>rfl,Nat.le_refl _⟩
 exact⟨g,hR.step g hR.fresh hR.inj λk p hk=>.inl ⟨hk,λb e c hs=>hm.old (hR.size ⟨k,p,e,c,hk,hs⟩)⟩⟩
theorem aRK(w:World)(i n cap:Nat)(x:Int)(l:List Int)(ty:TypeId)(hl:l.length=n)(hi:i<n)(z:Array Value)(hz:z.size=1)(hcap:n+1<=cap):
 ∃arr,lR w ((((w.alloc (.cells (((dD l).take i).toArray++Builtin.zeroCells z (n+1-i)++Builtin.zeroCells z (cap- (n+1))) ty)).drew.setCells w.heap.size i [.int .i64 x]).drew).setCells w.heap.size (i+1) ((dD l).drop i)) arr (ty,false)/\
  ∀(j:Nat) (u:Value),(dD (gQ l i x))[j]? =some u->arr[j]? =some u:=by
 have hv:(dD l).length=n:=by simp [dD,hl]
 generalize hA:((dD l).take i).toArray++Builtin.zeroCells z (n+1-i)++Builtin.zeroCells z (cap- (n+1))=A
 have hAs:A.size=cap:=by
  rw [<-hA];simp [Builtin.zeroCells,hz,hv];omega
 have h1:(w.alloc (.cells A ty)).drew.heap=w.heap.push (.cells A ty):=rfl
 have h2:=oN w.heap ty [.int .i64 x] i _ A h1
 have h3:((w.alloc (.cells A ty)).drew.setCells w.heap.size i [.int .i64 x]).drew.heap=_:=h2
 have h4:=oN w.heap ty ((dD l).drop i) (i+1) _ _ h3
 have o1:=iY w.heap.size [.int .i64 x] i (w.alloc (.cells A ty)).drew
 have o2:=iY w.heap.size ((dD l).drop i) (i+1) ((w.alloc (.cells A ty)).drew.setCells w.heap.size i [.int .i64 x]).drew
 refine⟨_,⟨o2.1.trans o1.1,o2.2.1.trans o1.2.1,o2.2.2.trans o1.2.2,h4⟩,λj u hj=>?_⟩
 have hd:((dD l).drop i).length=n-i:=by simp [hv]
 rw [pT _ _ _ _ (by rw [mS,hd,hAs];omega),pT _ _ _ _ (by rw [hAs];simp;omega),hd]
 have hins:dD (gQ l i x)=(dD l).take i++Value.int .i64 x::(dD l).drop i:=by simp [dD,gQ]
 rw [hins,List.getElem?_append] at hj
 have ht:((dD l).take i).length=i:=by simp [hv];omega
 rw [ht] at hj
 split at hj
 ·rename_i hlt
  rw [if_neg (by omega),if_neg (by simp;omega),<-hA,Array.append_assoc,zK (by simp [ht];omega)]
  simpa using hj
 ·rename_i hge
  by_cases he:j=i
  ·subst he
   rw [if_neg (by omega),if_pos (by simp)]
   simpa using hj
  ·have hj':((dD l).drop i)[j- (i+1)]? =some u:=by
    rw [show j-i=(j- (i+1))+1 by omega,zM] at hj;exact hj
   obtain⟨hlt,-⟩:=List.getElem?_eq_some_iff.1 hj'
   rw [hd] at hlt
   rw [if_pos (by omega)]
   exact hj'
theorem aUA(w:World)(n cap:Nat)(x:Int)(l:List Int)(ty:TypeId)(z:Array Value):
 ∃arr,lR w (w.drew.alloc (.cells ((dD l++ [Value.int .i64 x]).toArray++Builtin.zeroCells z cap) ty)) arr (ty,false)/\
  ∀(j:Nat) (u:Value),(dD (gQ l l.length x))[j]? =some u->arr[j]? =some u:=by
 refine⟨_,lR.drewAlloc w _ ty,λj u hj=>?_⟩
 have hins:dD (gQ l l.length x)=dD l++ [Value.int .i64 x]:=by simp [dD,gQ]
 rw [hins] at hj
 obtain⟨hlt,-⟩:=List.getElem?_eq_some_iff.1 hj
 rw [zK (by simpa using hlt)]
 simpa using hj
theorem kV(l:List Int)(i:Nat)(x:Int):(gQ l i x).length=l.length+1:=by simp [gQ];omega
theorem bBW(l:List Int)(i:Nat)(x:Int)(hi:i<=l.length)(hbig:(l.length+1)*8<=140737488355328):
 aM Tryz.prog 287 [.row 1 [[.int .i64 x]]] [.lst 1 true (aE l),.int .i64 i,.sl 0 0 1] (.lst 1 false (aE (gQ l i x))) [.row 1 [[.int .i64 x]]]:=by
 intro U σ w cargs hR hn hargs
 obtain⟨c0,c1,c2,rfl⟩:∃a b c,cargs= #[a,b,c]:=by
  rcases cargs with ⟨L⟩
  match L,hn with
  | [a,b,c],_=>exact⟨a,b,c,rfl⟩
 have a0:=hargs 0 _ c0 rfl rfl
 have a1:=hargs 1 _ c1 rfl rfl
 have a2:=hargs 2 _ c2 rfl rfl
 obtain⟨a,cap,b,o,rfl,hb,hcap,ht,hcs⟩:=aU5 a0
 obtain rfl:=ht rfl
 cases a1 with
 |int=>
  cases a2 with
  | @sl _ _ _ _ vb es vcap va hs hle ha=>
    have hob:=hR.obj 0 (.row 1 [[.int .i64 x]]) rfl
    rw [hs] at hob
    obtain⟨-,rfl,-,arr,ty,hblk,hasz,hcells⟩:=hob
    obtain⟨xv,hx1,-,hx2⟩:=hcells 0 _ 0 _ rfl rfl
    cases hx2 with
    |int=>
     obtain rfl:=ha (by omega)
     have hvs:∀(j:Nat) (v:Value),([Value.int .i64 x])[j]? =some v->w.cell? ⟨vb,0*1+j,none⟩=some v:=λj v hj=>by
      cases j with
      |zero=>
       simp only [zN,Option.some.injEq] at hj
       subst hj
       rw [World.cell?,hblk]
       simpa using hx1
      |succ j=>simp at hj
     have fin:∀(w':World) (arr':Array Value) (ty':TypeId) (G:Nat),lR w w' arr' (ty',false)->l.length+1<=G->(∀(j:Nat) (u:Value),(dD (gQ l i x))[j]? =some u->arr'[j]? =some u)->
      ∃cv σ',(Ending.returned (.slice (some ⟨w.heap.size,0,none⟩) (l.length+1) G))=.returned cv/\aW U σ' (aN 0 [.row 1 [[.int .i64 x]]]) w' 1/\VR (Own U σ' (aN 0 [.row 1 [[.int .i64 x]]])) w' σ' (.lst 1 false (aE (gQ l i x))) cv/\
       bV σ (aN 0 [.row 1 [[.int .i64 x]]]) w 1 σ' (aN 0 [.row 1 [[.int .i64 x]]]) w' 1:=λw' arr' ty' G hm hG hg=>by
      obtain⟨g,hR'⟩:=aW.newBlock hR hm
      refine⟨_,σ,rfl,hR',?_,g⟩
      rw [<-kV l i x]
      refine aSU hm (λh=>?_) _ _ (by rw [kV];exact hG) hg
      rcases h with h |h
      ·exact absurd (hR.ulim _ h) (by omega)
      ·exact absurd (hR.size h) (by omega)
     have one:∀v∈dD l,v.oneCell'=true:=λv hv=>by
      simp only [dD,zV] at hv;obtain⟨y,-,rfl⟩:=hv;rfl
     by_cases he:i=l.length
     ·subst he
      refine(Any2.slices_Insert_int_end_grow aHZ a l.length l.length vb (0*1) 1 (vcap-0) (dD l) [.int .i64 x] w (by omega) (by omega) (by omega) hbig (by simp [dD]) rfl (λh=>?_) (λa' h j v hj=>?_) hvs (by simp [aZ3])).mono ?_
      ·cases l with
       |nil=>rfl
       |cons y r=>have :=(hb (by simp)).1;rw [h] at this;cases this
      ·have hne:l≠ []:=by rintro rfl;simp [dD] at hj
       have :=(hb hne).1
       rw [h] at this
       cases this
       rw [Addr.add_lit];exact hcs j v hj
      ·rintro e w' ⟨rfl,rfl⟩
       obtain⟨arr',hm,hg⟩:=aUA w l.length (grownCap w (l.length+1) l.length (aL9.t 3)- (l.length+1)) x l (aL9.t 3) (Value.int .i64 0).cells
       exact fin _ arr' _ _ hm (iU _ _ _ _) hg
     ·have hne:l≠ []:=by rintro rfl;simp at hi;exact he (by simpa using hi)
      obtain⟨rfl,hnb,hbw⟩:=hb hne
      refine(Any2.slices_Insert_int_grow aHZ b o l.length l.length i vb (0*1) 1 (vcap-0) (dD l) [.int .i64 x] w (by omega) (by omega) (by omega) (by omega) hbig (by simp [dD]) rfl hcs hvs one (by simp [aZ3])).mono ?_
      rintro e w' ⟨rfl,rfl⟩
      obtain⟨arr',hm,hg⟩:=aRK w i l.length (grownCap w (l.length+1) l.length (aL9.t 3)) x l (aL9.t 3) rfl (by omega) (Value.int .i64 0).cells rfl (iU _ _ _ _)
      exact fin _ arr' _ _ hm (iU _ _ _ _) hg
end Go.Proofs.YtmhapcbjjpadnaaGreat
namespace Go.Proofs.YtmhapcbjjpadnaaGreat
open Go Go.Sk Go.RowKit
theorem bEI(x:Int):aM Tryz.prog 208 [] [.int .i64 x] (.bool (x != x)) []:=by
 refine aF (ob0:= []) [] Tryz.func208 rfl rfl rfl rfl ?_
 refine Wk ?_
 try subst hk
 exact Lf
theorem aPC(x:Int):aM Tryz.prog 208 [] [.int .i64 x] (.bool false) []:=by
 have :=bEI x
 rwa [show(x != x)=false by simp] at this
theorem bES(x:Int):aM Tryz.prog 334 [] [.int .i64 x] (.bool (x != x)) []:=by
 refine aF (ob0:= []) [] Tryz.func334 rfl rfl rfl rfl ?_
 refine Wk ?_
 try subst hk
 exact Lf
theorem aPG(x:Int):aM Tryz.prog 334 [] [.int .i64 x] (.bool false) []:=by
 have :=bES x
 rwa [show(x != x)=false by simp] at this
theorem bIZ(x y:Int):aM Tryz.prog 333 [] [.int .i64 x,.int .i64 y] (.bool (decide (x<y))) []:=by
 refine aF (ob0:= []) [] Tryz.func333 rfl rfl rfl rfl ?_
 refine Wk2 (aPC x) (aPC y) ?_
 try subst hk
 exact Lf
def eW(l:List Int)(x:Int):Nat:=(l.takeWhile (decide<| ·<x)).length
theorem aMG:∀(l:List Int) (x:Int) (i:Nat),i<=l.length->(∀j,j<i->l.getD j 0<x)->(∀j,i<=j->j<l.length->x<=l.getD j 0)->eW l x=i
 | [],_,i,h,_,_=>by simp at h;subst h;rfl
 |y::r,x,0,_,_,h2=>by
  have :=h2 0 (by omega) (by simp)
  simp only [zU] at this
  simp only [eW,zI]
  rw [show decide (y<x)=false by simpa using this];rfl
 |y::r,x,i+1,h,h1,h2=>by
  have :=h1 0 (by omega)
  simp only [zU] at this
  have ih:=aMG r x i (by simpa using h) (λj hj=>by simpa using h1 (j+1) (by omega)) (λj hj hj'=>by simpa using h2 (j+1) (by omega) (by simpa using hj'))
  simp only [eW,zI]
  rw [show decide (y<x)=true by simpa using this]
  simpa [eW] using ih
def aAS(l:List Int)(x:Int):Bool:=bif decide (eW l x<l.length) then l.getD (eW l x) 0==x else false
theorem bBV(l:List Int)(t:Bool)(x:Int)(hl:l.length<=100000)(hs:l.Pairwise (·< ·)):aM Tryz.prog 286 [] [.lst 1 t (aE l),.int .i64 x] (.tup [.int .i64 (eW l x),.bool (aAS l x)]) []:=by
 have hmon:∀i j,i<j->j<l.length->l.getD i 0<l.getD j 0:=λi j hij hj=>by
  rw [<-fI l i (by omega),<-fI l j hj]
  exact List.pairwise_iff_getElem.1 hs i j (by omega) hj hij
 refine aF (ob0:= []) [] Tryz.func286 rfl rfl rfl rfl ?_
 refine Wk ?_
 rw [aA]
 refine⟨Nat×Nat,λp=>(p.1<=p.2/\p.2<=l.length)/\(∀j,j<p.1->l.getD j 0<x)/\(∀j,p.2<=j->j<l.length->x<=l.getD j 0),λp=>⟨[(0,⟨[],true,.lst 1 t (aE l)⟩),(1,⟨[],true,.int .i64 x⟩),(6,⟨[],true,.int .i64 (l.length:Int)⟩),(7,⟨[],true,.int .i64 (p.1:Int)⟩),(8,⟨[],true,.int .i64 (p.2:Int)⟩)],[],0⟩,λp=>p.2-p.1,⟨(0,l.length),⟨⟨by omega,by omega⟩,λj hj=>by simp at hj,λj hj hj'=>by simp only at hj;omega⟩,?_⟩,λp hI=>?_⟩
 ·exact Vw []
 obtain⟨a,b⟩:=p
 obtain⟨⟨hI1,hI2⟩,hI3,hI4⟩:=hI
 simp only at hI1 hI2 hI3 hI4
 refine Wk ?_
 refine aC (λh1=>?_) (λh1=>?_)<;> try simp only [zC,zA,zE,zD,zG] at h1
 ·have h1:a<b:=by simpa using h1
  refine Wk ?_
  try first |refine aB (by decide) ?_ |refine aH (λ_=>by decide) ?_ |refine⟨λ_=>by decide,?_⟩
  refine Wk ?_
  have hm:IntKind.i64.wrap ((IntKind.u64.wrap (IntKind.i64.wrap ((((a,b).fst:Nat):Int)+(((a,b).snd:Nat):Int)))).fdiv (2^min (Int.toNat 1) IntKind.u64.bits))=(((a+b)/2:Nat):Int):=by
   simp only []
   rw [aR (n:=(a:Int)+b) (by omega) (by omega),show IntKind.u64.wrap ((a:Int)+b)=(a:Int)+b from by
    have :=Int.emod_eq_of_lt (a:=(a:Int)+b) (b:=18446744073709551616) (by omega) (by omega)
    simpa [IntKind.wrap,IntKind.bits,IntKind.signed] using this]
   have e:((a:Int)+b).fdiv (2^min (Int.toNat 1) IntKind.u64.bits)=((a:Int)+b)/2:=by
    rw [Int.fdiv_eq_ediv_of_nonneg _ (by decide)];rfl
   rw [e,aR (by omega) (by omega)]
   omega
  rw [hm]
  have hmid:a<=(a+b)/2/\(a+b)/2<b:=by omega
  generalize(a+b)/2=m at hm hmid
  first |refine aB (⟨rfl,by omega,by rw [aA];omega⟩) ?_ |refine aH (λ_=>⟨rfl,by omega,by rw [aA];omega⟩) ?_ |refine⟨λ_=>⟨rfl,by omega,by rw [aA];omega⟩,?_⟩
  rw [zF,bN l m (by omega),fI]
  refine cC (bIZ (l.getD m 0) x) ?_
  refine aC (λh2=>?_) (λh2=>?_)<;> try simp only [zC,zA,zE,zD,zG] at h2
  ·have h2:l.getD m 0<x:=by simpa using h2
   refine Wk ?_
   rw [aR (n:=(m:Int)+1) (by omega) (by omega),show((m:Int)+1)=((m+1:Nat):Int) by omega]
   refine⟨(m+1,b),⟨⟨by show m+1<=b;omega,hI2⟩,λj hj=>?_,hI4⟩,?_,by show b- (m+1)<b-a;omega⟩
   ·have hj:j<m+1:=hj
    by_cases e:j=m
    ·rw [e];exact h2
    ·have :=hmon j m (by omega) (by omega);omega
   exact Vw []
  have h2:x<=l.getD m 0:=by simpa using h2
  refine Wk ?_
  refine⟨(a,m),⟨⟨hmid.1,by show m<=l.length;omega⟩,hI3,λj hj hj'=>?_⟩,?_,by show m-a<b-a;omega⟩
  ·have hj:m<=j:=hj
   by_cases e:j=m
   ·rw [e];exact h2
   ·have :=hmon m j (by omega) hj';omega
  exact Vw []
 have h1:a=b:=by simp at h1;omega
 subst h1
 have hat:=aMG l x a hI2 hI3 hI4
 have hk:aAS l x=(bif decide ((a:Int)< (l.length:Int)) then l.getD a 0==x else false):=by
  rw [aAS,hat];congr 1;simp
 refine Wk ?_
 by_cases hlt:a<l.length
 ·have hd:decide ((((a,a).fst:Nat):Int)< (l.length:Int))=true:=by simpa using hlt
  rw [hd]
  first |refine aB (⟨rfl,by omega,by rw [aA];show(a:Int)<_;omega⟩) ?_ |refine aH (λ_=>⟨rfl,by omega,by rw [aA];show(a:Int)<_;omega⟩) ?_ |refine⟨λ_=>⟨rfl,by omega,by rw [aA];show(a:Int)<_;omega⟩,?_⟩
  rw [zF,bN l a hlt,fI]
  refine Wk2 (aPG (l.getD a 0)) (aPG x) ?_
  first |refine aB (⟨rfl,by show(0:Int)<=(a:Int);omega,by rw [aA];show(a:Int)<_;omega⟩) ?_ |refine aH (λ_=>⟨rfl,by show(0:Int)<=(a:Int);omega,by rw [aA];show(a:Int)<_;omega⟩) ?_ |refine⟨λ_=>⟨rfl,by show(0:Int)<=(a:Int);omega,by rw [aA];show(a:Int)<_;omega⟩,?_⟩
  rw [zF,bN l a hlt,fI]
  refine Wk2 (aPG (l.getD a 0)) (aPG x) ?_
  rw [hat,hk,show decide ((a:Int)< (l.length:Int))=true by simpa using hlt]
  refine⟨[],trivial,rfl,trivial,rfl,?_⟩
  try subst hk
  repeat' (first |exact trivial |rfl |exact .inl rfl |exact .inr rfl |exact id |exact(λh=>Bool.noConfusion h)|refine And.intro ?_ ?_)
  cases l.getD a 0==x <;> rfl
 ·have hd:decide ((((a,a).fst:Nat):Int)< (l.length:Int))=false:=by simpa using hlt
  have hr:(aE l).getD a []=[]:=by rw [zJ,List.getElem?_eq_none (by rw [aA];omega)];rfl
  rw [hd]
  first |refine⟨λh=>(by cases h),?_⟩|skip
  rw [zF,hr]
  refine Wk ?_
  rw [zF,hr]
  refine Wk ?_
  refine .inr ⟨λh=>(by cases h),λ_=>?_⟩
  refine Wk ?_
  refine .inr ⟨λh=>(by cases h),λ_=>?_⟩
  refine Wk ?_
  rw [hat,hk,show decide ((a:Int)< (l.length:Int))=false by simpa using hlt]
  try subst hk
  exact Lf
end Go.Proofs.YtmhapcbjjpadnaaGreat
namespace Go.Proofs.YtmhapcbjjpadnaaGreat
open Go Go.Sk Go.RowKit
def aK8(z:Zn)(f:Int):Zn:=⟨z.first,z.size,z.min,z.low,z.high,gQ z.free (eW z.free f) f,false⟩
def eG(base l:List Zn)(f:Int):List Zn×Int:=
 bif !bF l then(base,1) else bif decide (dR (inG f) l<0) then(base,2) else
 bif aAS (l.getD (dR (inG f) l).toNat gD).free f then(base,5) else
 (base.set (dR (inG f) l).toNat (aK8 (l.getD (dR (inG f) l).toNat gD) f),0)
theorem aAF(lo hi:Int)(l:List Int)(h:tU lo hi l l.length=true):l.Pairwise (·< ·):=by
 have step:∀i,i+1<l.length->l.getD i 0<l.getD (i+1) 0:=λi hi=>by
  have :=sX lo _ l l.length (i+1) hi h
  simp only [kL,zS,Bool.and_eq_false_iff,decide_eq_false_iff_not] at this
  have h2:=this.2
  rw [Nat.add_sub_cancel] at h2
  omega
 have mon:∀d i,i+d+1<l.length->l.getD i 0<l.getD (i+d+1) 0:=λd=>by
  induction d with
  |zero=>exact λi hi=>step i hi
  |succ d ih=>
   intro i hi
   have h1:=ih i (by omega)
   have h2:=step (i+d+1) (by omega)
   rw [show i+(d+1)+1=i+d+1+1 by omega]
   omega
 refine List.pairwise_iff_getElem.2 λi j hi hj hij=>?_
 rw [fI,fI]
 have :=mon (j-i-1) i (by omega)
 rwa [show i+(j-i-1)+1=j by omega] at this
theorem uE:∀(l:List Int) (x:Int),eW l x<=l.length
 | [],_=>Nat.le_refl 0
 |y::r,x=>by
  have :=uE r x
  simp only [eW,zI] at this⊢
  split <;> simp <;> omega
theorem bBN(l:List Zn)(t:Bool)(f:Int)(hl:eV l):aM Tryz.prog 247 [] [.lst 6 t (aQ l),.int .i64 f] (.tup [.lst 6 false (aQ (eG (l.map gF) l f).1),.int .i64 (eG (l.map gF) l f).2]) []:=by
 have hlen:=hl.len
 refine aF (ob0:= []) [] Tryz.func247 rfl rfl rfl rfl ?_
 generalize hk:eG (l.map gF) l f=q
 refine Wk ?_
 refine .inr ⟨λ_=>⟨[],_,_,_,bBA l t hl,trivial,rfl,rfl,rfl,?_⟩,(by intro h;cases h)⟩
 refine cC (aUX l t hl) ?_
 refine aC (λh1=>?_) (λh1=>?_)<;> try simp only [zC,zA,zE,zD,zG] at h1
 ·have h1:(!bF l)=true:=by rw [h1];rfl
  simp only [eG,h1,cond_true] at hk
  subst hk
  refine Wk ?_
  refine⟨[],trivial,rfl,trivial,rfl,?_⟩
  try subst hk
  repeat' (first |exact trivial |rfl |exact .inl rfl |exact .inr rfl |exact id |exact(λh=>Bool.noConfusion h)|refine And.intro ?_ ?_)
  ·show 0+l.length<=_
   rw [aG];simp
  ·refine dB ?_
   rw [aG];simp
 have h1':bF l=true:=by simpa using h1
 have h1:(!bF l)=false:=by rw [h1'];rfl
 have hg:=pY h1'
 simp only [eG,h1,cond_false] at hk
 refine Wk ?_
 refine .inl ⟨_,λ_=>⟨?_,bIO l t 318 [.rp 1 [.int .i64 f] 0] (inG f) call58 rfl (λx _=>bIU x f) (by omega)⟩,.inr rfl,?_⟩
 ·intro v hv
  have hv:v∈ [V.lst 6 t (aQ l),V.fn 318 [V.ptr 0 0 0]]:=hv
  rcases List.mem_cons.1 hv with rfl |hv
  ·exact trivial
  ·obtain rfl:=List.mem_singleton.1 hv
   intro c hc
   obtain rfl:=List.mem_singleton.1 hc
   exact⟨rfl,rfl⟩
 refine Wk ?_
 refine aC (λh2=>?_) (λh2=>?_)<;> try simp only [zC,zA,zE,zD,zG] at h2
 ·simp only [h2,cond_true] at hk
  subst hk
  refine Wk ?_
  refine⟨[],trivial,rfl,trivial,rfl,?_⟩
  try subst hk
  repeat' (first |exact trivial |rfl |exact .inl rfl |exact .inr rfl |exact id |exact(λh=>Bool.noConfusion h)|refine And.intro ?_ ?_)
  ·show 0+l.length<=_
   rw [aG];simp
  ·refine dB ?_
   rw [aG];simp
 simp only [h2,cond_false] at hk
 obtain⟨n,hn,hin,-,-⟩:=oY (inG f) l (by simpa using h2)
 rw [hin] at hk⊢
 rw [zF] at hk
 have hgn:=hg l[n] (zY hn)
 have hfn:=hl.free l[n] (zY hn)
 have hpw:=aAF _ _ _ hgn.asc
 simp only [uJ l n hn] at hk
 refine Wk ?_
 first |refine aB (⟨by omega,by omega⟩) ?_ |refine aH (λ_=>⟨by omega,by omega⟩) ?_ |refine⟨λ_=>⟨by omega,by omega⟩,?_⟩
 refine Wk ?_
 first |refine aB (by rw [aG];simp;omega) ?_ |refine aH (λ_=>by rw [aG];simp;omega) ?_ |refine⟨λ_=>by rw [aG];simp;omega,?_⟩
 refine Wk ?_
 rw [zP,zF,vJ l n hn]
 refine cC (bBV l[n].free true f hfn hpw) ?_
 refine aC (λh4=>?_) (λh4=>?_)<;> try simp only [zC,zA,zE,zD,zG] at h4
 ·simp only [h4,cond_true] at hk
  subst hk
  refine Wk ?_
  refine⟨[],trivial,rfl,trivial,rfl,?_⟩
  try subst hk
  repeat' (first |exact trivial |rfl |exact .inl rfl |exact .inr rfl |exact id |exact(λh=>Bool.noConfusion h)|refine And.intro ?_ ?_)
  ·show 0+l.length<=_
   rw [aG];simp
  ·refine dB ?_
   rw [aG];simp
 simp only [h4,cond_false] at hk
 refine Wk ?_
 first |refine aB (⟨by omega,by omega⟩) ?_ |refine aH (λ_=>⟨by omega,by omega⟩) ?_ |refine⟨λ_=>⟨by omega,by omega⟩,?_⟩
 refine Wk ?_
 first |refine aB (by rw [aG];simp;omega) ?_ |refine aH (λ_=>by rw [aG];simp;omega) ?_ |refine⟨λ_=>by rw [aG];simp;omega,?_⟩
 refine Wk ?_
 rw [zP,zF,vJ l n hn]
 refine Wk ?_
 refine .inr ⟨λ_=>⟨[11408],_,_,_,bBW l[n].free (eW l[n].free f) f (uE _ _) (by omega),⟨rfl,trivial⟩,rfl,rfl,rfl,?_⟩,(by intro h;cases h)⟩
 refine Wk ?_
 first |refine aB (⟨by omega,by omega⟩) ?_ |refine aH (λ_=>⟨by omega,by omega⟩) ?_ |refine⟨λ_=>⟨by omega,by omega⟩,?_⟩
 refine Wk ?_
 first |refine aB (by rw [aG];simp;omega) ?_ |refine⟨by rw [aG];simp;omega,?_⟩
 refine Wk ?_
 subst hk
 refine⟨[],trivial,rfl,trivial,rfl,?_⟩
 try subst hk
 repeat' (first |exact trivial |rfl |exact .inl rfl |exact .inr rfl |exact id |exact(λh=>Bool.noConfusion h)|refine And.intro ?_ ?_)
 ·show 0+l.length<=_
  rw [List.length_set,aG];simp
 ·rw [zP,zF]
  refine(congrArg (λr=>List.take l.length (List.drop 0 r)) (aD6 (l.map gF) n (by simp;omega) (gQ l[n].free (eW l[n].free f) f) false)).trans ?_
  refine(dB (by rw [aG];simp)).trans ?_
  simp only [List.getElem_map]
  rfl
end Go.Proofs.YtmhapcbjjpadnaaGreat
