/- Caches. -/
import Derived.Test.YtmhapcbjjpadnaaGreatG2
import Derived.Shelf.Spec.SlicesInsertGrow
set_option linter.unusedSimpArgs false
set_option linter.unusedVariables false
open Array renaming getElem?_append_left→zK,getElem?_push→zS
open Bool renaming cond_false_right→zA,cond_true_left→zC,not_eq_false'→zD,not_eq_true'→zE,not_not→zG,or_eq_false_iff→zR
open Int renaming toNat_natCast→zF
open List renaming length_append→zH,takeWhile_cons→zI,getD_eq_getElem?_getD→zJ,drop_eq_getElem_cons→zL,getElem?_cons_succ→zM,getElem?_cons_zero→zN,map_append→zQ,getD_cons_zero→zT,mem_map→zU,getElem?_map→zV,length_cons→zW,getElem_mem→zX
open Nat renaming zero_add→zP
open Option renaming map_eq_some_iff→zO
set_option maxRecDepth 40000
namespace Go.Proofs.YtmhapcbjjpadnaaGreat
open Go Go.Sk Go.RowKit
def lM(a b:Int):List Int:=(List.range (b-a).toNat).map fun(i:Nat)=>a+i
theorem aE6(a b:Int):(lM a b).length=(b-a).toNat:=by simp [lM]
theorem aKH(a b:Int)(h:b≤a):lM a b=[]:=by
 have :(b-a).toNat=0:=by omega
 simp [lM,this]
theorem aFY(a b:Int)(h:a≤b):lM a (b+1)=lM a b++ [b]:=by
 have :(b+1-a).toNat=(b-a).toNat+1:=by omega
 rw [lM,lM,this,List.range_succ,zQ]
 congr 1
 simp only [List.map_cons,List.map_nil,List.cons.injEq,and_true]
 omega
theorem aJN(a b x:Int):x∈lM a b↔a≤x∧x<b:=by
 simp only [lM,zU,List.mem_range]
 constructor
 ·rintro ⟨i,h,rfl⟩;omega
 ·rintro ⟨h1,h2⟩;exact⟨(x-a).toNat,by omega,by omega⟩
theorem fK(l:List Int)(x:Int):aE l++ [[.int .i64 x]]=aE (l++ [x]):=by rw [aE,aE,zQ];rfl
theorem aE3(l:List Zn)(z:Zn):aP l++ [z.c]=aP (l++ [z]):=by rw [aP,aP,zQ];rfl
def qP(n k:Int):Int:=IntKind.i64.wrap (n.tdiv k)
def mkZ(f n:Int):Zn:=⟨f,n,qP n 8,qP n 4,qP n 2,lM f (f+n),false⟩
def aBN(f n:Int):Bool:=(decide (n<1)||decide (64<n))||decide (65<IntKind.i64.wrap (f+n))
def newR(f:Int):List Int→Option (List Zn)
 | []=>some []
 |n::r=>bif aBN f n then none else(newR (f+n) r).map (mkZ f n:: ·)
def newF(s:List Int):List Zn×Int:=bif (s.length:Int)==0 then([],1) else match newR 1 s with
 |none=>([],2)
 |some l=>(l,0)
structure aCF(s:List Int)(i:Nat)(f:Int)(acc:List Zn):Prop where
 le:i≤s.length
 len:acc.length≤i
 pos:1≤f∧f≤65
 res:newR 1 s=(newR f (s.drop i)).map (acc++ ·)
theorem rS {f n:Int} (hf:1≤f∧f≤65)(h:aBN f n=false):1≤n∧n≤64∧f+n≤65∧IntKind.i64.wrap (f+n)=f+n:=by
 simp only [aBN,zR,decide_eq_false_iff_not] at h
 have :IntKind.i64.wrap (f+n)=f+n:=aO (by omega) (by omega)
 omega
theorem aCF.bad {s:List Int} {i:Nat} {f:Int} {acc:List Zn} (h:aCF s i f acc)(hi:i<s.length)(hb:aBN f s[i]=true):newR 1 s=none:=by
 rw [h.res,zL hi,newR,hb];rfl
theorem aCF.next {s:List Int} {i:Nat} {f:Int} {acc:List Zn} (h:aCF s i f acc)(hi:i<s.length)(hb:aBN f s[i]=false):aCF s (i+1) (f+s[i]) (acc++ [mkZ f s[i]]):=by
 obtain⟨a1,a2,a3,a4⟩:=rS h.pos hb
 have :=h.pos
 first |refine aB (by omega) (bA (by have :=h.len;simp;omega) (by omega) ?_)|refine aB ⟨by omega,by have :=h.len;simp;omega,by omega⟩ ?_ |refine⟨by omega,by have :=h.len;simp;omega,by omega,?_⟩
 rw [h.res,zL hi,newR,hb,cond_false,Option.map_map]
 congr 1
 funext r
 simp
theorem aCF.done {s:List Int} {i:Nat} {f:Int} {acc:List Zn} (h:aCF s i f acc)(hi:i=s.length):newR 1 s=some acc:=by
 rw [h.res,hi,List.drop_length,newR];simp
set_option maxRecDepth 20000 in
set_option maxHeartbeats 1000000 in
theorem bF6(s:List Int)(t:Bool)(hs:s.length≤100000):aN Tryz.prog 130 [] [.lst 1 t (aE s)] (.tup [.lst 6 false (aP (newF s).1),.int .i64 (newF s).2]) []:=by
 refine aF (ob0:= []) [.p 40] Tryz.func130 rfl rfl rfl rfl ?_
 generalize hk:newF s=q
 refine Wk ?_
 rw [aA]
 refine aC (fun h1=>?_) (fun h1=>?_)<;> try simp only [zC,zA,zE,zD,zG] at h1
 ·simp only [newF,h1,cond_true] at hk
  subst hk
  refine Wk ?_
  try subst hk
  exact Lf
 simp only [newF,h1,cond_false] at hk
 refine Wk ?_
 rw [aA]
 refine⟨Nat×Int×List Zn,fun p=>aCF s p.1 p.2.1 p.2.2,fun p=>⟨[(4,⟨[],true,.sl 0 0 p.2.2.length⟩),(5,⟨[],true,.int .i64 p.2.1⟩),(13,⟨[],true,.lst 1 t (aE s)⟩),(14,⟨[],true,.int .i64 (s.length:Int)⟩),(15,⟨[],true,.int .i64 (p.1:Int)⟩)],[(0,.row 6 (aP p.2.2))],1⟩,fun p=>s.length-p.1,⟨(0,1,[]),⟨by simp,by simp,by decide,by simp⟩,?_⟩,fun p hI=>?_⟩
 ·exact Vw [none]
 obtain⟨i,f,acc⟩:=p
 have hI:aCF s i f acc:=hI
 have hle:=hI.le
 have hpos:=hI.pos
 have hal:=hI.len
 refine Wk ?_
 refine aC (fun h3=>?_) (fun h3=>?_)<;> try simp only [zC,zA,zE,zD,zG] at h3
 ·have h3:i<s.length:=by simp at h3;omega
  refine Wk ?_
  first |refine aB (⟨rfl,by omega,by rw [aA];omega⟩) ?_ |refine aH (fun _=>⟨rfl,by omega,by rw [aA];omega⟩) ?_ |refine⟨fun _=>⟨rfl,by omega,by rw [aA];omega⟩,?_⟩
  rw [zF,bJ s i h3]
  have hbad:=hI.bad h3
  have hnext:=hI.next h3
  generalize s[i]=n at hbad hnext
  refine Wk ?_
  refine aC (fun h4=>?_) (fun h4=>?_)<;> try simp only [zC,zA,zE,zD,zG] at h4
  ·have h4:aBN f n=true:=h4
   rw [hbad h4] at hk
   subst hk
   refine Wk ?_
   try subst hk
   exact Lf
  have h4:aBN f n=false:=h4
  obtain⟨a1,a2,a3,a4⟩:=rS hpos h4
  have hnext:=hnext h4
  refine Wk ?_
  try first |refine aB (by decide) ?_ |refine aH (fun _=>by decide) ?_ |refine⟨fun _=>by decide,?_⟩
  refine Wk ?_
  try first |refine aB (by decide) ?_ |refine aH (fun _=>by decide) ?_ |refine⟨fun _=>by decide,?_⟩
  refine Wk ?_
  try first |refine aB (by decide) ?_ |refine aH (fun _=>by decide) ?_ |refine⟨fun _=>by decide,?_⟩
  refine Wk ?_
  refine⟨Unit,fun _=>True,fun _=>⟨[(4,⟨[],true,.sl 0 0 acc.length⟩),(5,⟨[],true,.int .i64 f⟩),(7,⟨[],true,.int .i64 n⟩),(8,⟨[],true,.ptr 1 0 0⟩),(13,⟨[],true,.lst 1 t (aE s)⟩),(14,⟨[],true,.int .i64 (s.length:Int)⟩),(15,⟨[],true,.int .i64 (i:Int)⟩)],
   [(0,.row 6 (aP acc)),(1,.box (mkZ f n).c)],2⟩,?_,fun _ _=>?_⟩
  ·refine Wk ?_
   refine⟨Nat×List Int,fun y=>(y.1:Int)≤n∧y.2=lM f (f+y.1),fun y=>⟨[(4,⟨[],true,.sl 0 0 acc.length⟩),(5,⟨[],true,.int .i64 f⟩),(7,⟨[],true,.int .i64 n⟩),(8,⟨[],true,.ptr 1 0 0⟩),(9,⟨[],true,.int .i64 (f+(y.1:Int))⟩),(13,⟨[],true,.lst 1 t (aE s)⟩),(14,⟨[],true,.int .i64 (s.length:Int)⟩),(15,⟨[],true,.int .i64 (i:Int)⟩)],
    [(0,.row 6 (aP acc)),(1,.box [.int .i64 f,.int .i64 n,.int .i64 (qP n 8),.int .i64 (qP n 4),.int .i64 (qP n 2),.sl 2 0 y.2.length]),(2,.row 1 (aE y.2))],3⟩,fun y=>100-y.1,⟨(0,[]),⟨by simp;omega,by rw [aKH _ _ (by simp)]⟩,?_⟩,fun y hy=>?_⟩
   ·refine bT [some 0,some 1,none] rfl rfl ?_ rfl ?_ rfl ?_
    repeat' (first |exact trivial |rfl |exact .inl rfl |exact .inr rfl |exact id |exact(fun h=>Bool.noConfusion h)|refine And.intro ?_ ?_)
    exact(Int.add_zero _).symm
   obtain⟨k,out⟩:=y
   obtain⟨hy1,hy2⟩:=hy
   simp only at hy1 hy2
   have hlen:out.length=k:=by rw [hy2,aE6];omega
   have hw1:IntKind.i64.wrap (f+(k:Int)+1)=f+((k+1:Nat):Int):=by rw [aO (by omega) (by omega)];omega
   refine Wk ?_
   rw [a4]
   refine aC (fun h5=>?_) (fun h5=>?_)<;> try simp only [zC,zA,zE,zD,zG] at h5
   ·have h5:(k:Int)<n:=by simp at h5;omega
    refine Wk ?_
    refine aB (aA out).symm ?_
    refine Wk ?_
    refine bA ?_ ?_ ?_
    ·show(((aE out).length+1:Nat):Int)≤_
     rw [aA];omega
    ·show((aE out).length+1)*8≤_
     rw [aA];omega
    refine Wk ?_
    rw [hw1]
    refine⟨(k+1,lM f (f+((k+1:Nat):Int))),⟨by show((k+1:Nat):Int)≤_;omega,rfl⟩,?_,by show 100- (k+1)<100-k;omega⟩
    have hs1:lM f (f+((k+1:Nat):Int))=out++ [f+(k:Int)]:=by
     rw [show f+((k+1:Nat):Int)=f+(k:Int)+1 by omega,aFY _ _ (by omega),hy2]
    rw [hs1]
    refine bT [some 0,some 1,some 4] rfl rfl ?_ rfl ?_ rfl ?_
    repeat' (first |exact trivial |rfl |exact .inl rfl |exact .inr rfl |exact id |exact(fun h=>Bool.noConfusion h)|refine And.intro ?_ ?_)
    ·show(aE out).length+1=_
     rw [aA,zH];rfl
    ·exact fK out _
   have h5:(k:Int)=n:=by simp at h5;omega
   refine Wk ?_
   refine⟨(),trivial,?_⟩
   refine bT [some ?k143_0,some ?k143_1] rfl rfl ?h3_143 ?h4_143 ?h5_143 ?h6_143 ?h7_143
   case' h7_143=>repeat' (first |exact trivial |rfl |exact .inl rfl |exact .inr rfl |exact id |exact(fun h=>Bool.noConfusion h)|refine And.intro ?_ ?_)
   case' h4_143=>rfl
   case' h6_143=>rfl
   case' h3_143=>repeat' (first |exact trivial |rfl |exact .inl rfl |exact .inr rfl |exact id |exact(fun h=>Bool.noConfusion h)|refine And.intro ?_ ?_)
   case' h5_143=>repeat' (first |exact trivial |rfl |exact .inl rfl |exact .inr rfl |exact id |exact(fun h=>Bool.noConfusion h)|refine And.intro ?_ ?_)
   ·show 0+out.length≤(aE out).length
    rw [aA];omega
   ·refine(cV (aA _)).trans ?_
    show aE out=aE (lM f (f+n))
    rw [hy2,h5]
  ·refine Wk ?_
   first |refine aB ((aG acc).symm) ?_ |skip
   conv=>whnf
   refine bA ?_ ?_ ?_
   ·show(((aP acc).length+1:Nat):Int)≤_
    rw [aG];omega
   ·show((aP acc).length+1)*64≤_
    rw [aG];omega
   refine Wk ?_
   rw [a4,aO (n:=(i:Int)+1) (by omega) (by omega),show((i:Int)+1)=((i+1:Nat):Int) by omega]
   refine⟨(i+1,f+n,acc++ [mkZ f n]),hnext,?_,by show s.length- (i+1)<s.length-i;omega⟩
   refine bT [some ?k165_0] rfl rfl ?h3_165 ?h4_165 ?h5_165 ?h6_165 ?h7_165
   case' h7_165=>repeat' (first |exact trivial |rfl |exact .inl rfl |exact .inr rfl |exact id |exact(fun h=>Bool.noConfusion h)|refine And.intro ?_ ?_)
   case' h4_165=>rfl
   case' h6_165=>rfl
   case' h3_165=>repeat' (first |exact trivial |rfl |exact .inl rfl |exact .inr rfl |exact id |exact(fun h=>Bool.noConfusion h)|refine And.intro ?_ ?_)
   case' h5_165=>repeat' (first |exact trivial |rfl |exact .inl rfl |exact .inr rfl |exact id |exact(fun h=>Bool.noConfusion h)|refine And.intro ?_ ?_)
   ·exact aE3 acc (mkZ f n)
   ·show(aP acc).length+1=_
    rw [aG,zH];rfl
 have h3:i=s.length:=by simp at h3;omega
 rw [hI.done h3] at hk
 subst hk
 refine Wk ?_
 refine⟨[],trivial,rfl,trivial,rfl,?_⟩
 try subst hk
 repeat' (first |exact trivial |rfl |exact .inl rfl |exact .inr rfl |exact id |exact(fun h=>Bool.noConfusion h)|refine And.intro ?_ ?_)
 ·show 0+acc.length≤(aP acc).length
  rw [aG];omega
 ·exact cV (aG _)
end Go.Proofs.YtmhapcbjjpadnaaGreat
set_option maxRecDepth 40000
namespace Go.Proofs.YtmhapcbjjpadnaaGreat
open Go Go.Sk Go.RowKit
set_option maxRecDepth 20000 in
set_option maxHeartbeats 1000000 in
theorem bEW(s:List Int)(t:Bool)(hs:s.length≤100000):aN Tryz.prog 113 [] [.lst 1 t (aE s)] (.tup [.lst 6 false (aP (newF s).1),.int .i64 (newF s).2]) []:=by
 refine aF (ob0:= []) [.p 44] Tryz.func113 rfl rfl rfl rfl ?_
 generalize hk:newF s=q
 refine Wk ?_
 rw [aA]
 refine aC (fun h1=>?_) (fun h1=>?_)<;> try simp only [zC,zA,zE,zD,zG] at h1
 ·simp only [newF,h1,cond_true] at hk
  subst hk
  refine Wk ?_
  try subst hk
  exact Lf
 simp only [newF,h1,cond_false] at hk
 refine Wk ?_
 refine⟨Nat×Int×List Zn,fun p=>aCF s p.1 p.2.1 p.2.2,fun p=>⟨[(4,⟨[],true,.sl 0 0 p.2.2.length⟩),(5,⟨[],true,.int .i64 p.2.1⟩),(0,⟨[],true,.lst 1 t (aE s)⟩),(6,⟨[],true,.int .i64 (p.1:Int)⟩)],[(0,.row 6 (aP p.2.2))],1⟩,fun p=>s.length-p.1,⟨(0,1,[]),⟨by simp,by simp,by decide,by simp⟩,?_⟩,fun p hI=>?_⟩
 ·exact Vw [none]
 obtain⟨i,f,acc⟩:=p
 have hI:aCF s i f acc:=hI
 have hle:=hI.le
 have hpos:=hI.pos
 have hal:=hI.len
 refine Wk ?_
 rw [aA]
 refine aC (fun h3=>?_) (fun h3=>?_)<;> try simp only [zC,zA,zE,zD,zG] at h3
 ·have h3:i<s.length:=by simp at h3;omega
  refine Wk ?_
  first |refine aB (⟨rfl,by omega,by rw [aA];omega⟩) ?_ |refine aH (fun _=>⟨rfl,by omega,by rw [aA];omega⟩) ?_ |refine⟨fun _=>⟨rfl,by omega,by rw [aA];omega⟩,?_⟩
  rw [zF,bJ s i h3]
  have hbad:=hI.bad h3
  have hnext:=hI.next h3
  generalize s[i]=n at hbad hnext
  refine Wk ?_
  refine aC (fun h4=>?_) (fun h4=>?_)<;> try simp only [zC,zA,zE,zD,zG] at h4
  ·have h4:aBN f n=true:=h4
   rw [hbad h4] at hk
   subst hk
   refine Wk ?_
   try subst hk
   exact Lf
  have h4:aBN f n=false:=h4
  obtain⟨a1,a2,a3,a4⟩:=rS hpos h4
  have hnext:=hnext h4
  refine Wk ?_
  try first |refine aB (by decide) ?_ |refine aH (fun _=>by decide) ?_ |refine⟨fun _=>by decide,?_⟩
  refine Wk ?_
  try first |refine aB (by decide) ?_ |refine aH (fun _=>by decide) ?_ |refine⟨fun _=>by decide,?_⟩
  refine Wk ?_
  try first |refine aB (by decide) ?_ |refine aH (fun _=>by decide) ?_ |refine⟨fun _=>by decide,?_⟩
  refine Wk ?_
  refine⟨Unit,fun _=>True,fun _=>⟨[(4,⟨[],true,.sl 0 0 acc.length⟩),(5,⟨[],true,.int .i64 f⟩),(7,⟨[],true,.int .i64 n⟩),(8,⟨[],true,.ptr 1 0 0⟩),(0,⟨[],true,.lst 1 t (aE s)⟩),(6,⟨[],true,.int .i64 (i:Int)⟩)],
   [(0,.row 6 (aP acc)),(1,.box (mkZ f n).c)],2⟩,?_,fun _ _=>?_⟩
  ·refine Wk ?_
   refine⟨Nat×List Int,fun y=>(y.1:Int)≤n∧y.2=lM f (f+y.1),fun y=>⟨[(4,⟨[],true,.sl 0 0 acc.length⟩),(5,⟨[],true,.int .i64 f⟩),(7,⟨[],true,.int .i64 n⟩),(8,⟨[],true,.ptr 1 0 0⟩),(9,⟨[],true,.int .i64 (f+(y.1:Int))⟩),(0,⟨[],true,.lst 1 t (aE s)⟩),(6,⟨[],true,.int .i64 (i:Int)⟩)],
    [(0,.row 6 (aP acc)),(1,.box [.int .i64 f,.int .i64 n,.int .i64 (qP n 8),.int .i64 (qP n 4),.int .i64 (qP n 2),.sl 2 0 y.2.length]),(2,.row 1 (aE y.2))],3⟩,fun y=>100-y.1,⟨(0,[]),⟨by simp;omega,by rw [aKH _ _ (by simp)]⟩,?_⟩,fun y hy=>?_⟩
   ·refine bT [some 0,some 1,none] rfl rfl ?_ rfl ?_ rfl ?_
    repeat' (first |exact trivial |rfl |exact .inl rfl |exact .inr rfl |exact id |exact(fun h=>Bool.noConfusion h)|refine And.intro ?_ ?_)
    exact(Int.add_zero _).symm
   obtain⟨k,out⟩:=y
   obtain⟨hy1,hy2⟩:=hy
   simp only at hy1 hy2
   have hlen:out.length=k:=by rw [hy2,aE6];omega
   have hw1:IntKind.i64.wrap (f+(k:Int)+1)=f+((k+1:Nat):Int):=by rw [aO (by omega) (by omega)];omega
   refine Wk ?_
   rw [a4]
   refine aC (fun h5=>?_) (fun h5=>?_)<;> try simp only [zC,zA,zE,zD,zG] at h5
   ·have h5:(k:Int)<n:=by simp at h5;omega
    refine Wk ?_
    first |refine aB ((aA out).symm) ?_ |skip
    conv=>whnf
    refine bA ?_ ?_ ?_
    ·show(((aE out).length+1:Nat):Int)≤_
     rw [aA];omega
    ·show((aE out).length+1)*8≤_
     rw [aA];omega
    refine Wk ?_
    rw [hw1]
    refine⟨(k+1,lM f (f+((k+1:Nat):Int))),⟨by show((k+1:Nat):Int)≤_;omega,rfl⟩,?_,by show 100- (k+1)<100-k;omega⟩
    have hs1:lM f (f+((k+1:Nat):Int))=out++ [f+(k:Int)]:=by
     rw [show f+((k+1:Nat):Int)=f+(k:Int)+1 by omega,aFY _ _ (by omega),hy2]
    rw [hs1]
    refine bT [some 0,some 1,some 4] rfl rfl ?_ rfl ?_ rfl ?_
    repeat' (first |exact trivial |rfl |exact .inl rfl |exact .inr rfl |exact id |exact(fun h=>Bool.noConfusion h)|refine And.intro ?_ ?_)
    ·show(aE out).length+1=_
     rw [aA,zH];rfl
    ·exact fK out _
   have h5:(k:Int)=n:=by simp at h5;omega
   refine Wk ?_
   refine⟨(),trivial,?_⟩
   refine bT [some ?k94_0,some ?k94_1] rfl rfl ?h3_94 ?h4_94 ?h5_94 ?h6_94 ?h7_94
   case' h7_94=>repeat' (first |exact trivial |rfl |exact .inl rfl |exact .inr rfl |exact id |exact(fun h=>Bool.noConfusion h)|refine And.intro ?_ ?_)
   case' h4_94=>rfl
   case' h6_94=>rfl
   case' h3_94=>repeat' (first |exact trivial |rfl |exact .inl rfl |exact .inr rfl |exact id |exact(fun h=>Bool.noConfusion h)|refine And.intro ?_ ?_)
   case' h5_94=>repeat' (first |exact trivial |rfl |exact .inl rfl |exact .inr rfl |exact id |exact(fun h=>Bool.noConfusion h)|refine And.intro ?_ ?_)
   ·show 0+out.length≤(aE out).length
    rw [aA];omega
   ·refine(cV (aA _)).trans ?_
    show aE out=aE (lM f (f+n))
    rw [hy2,h5]
  ·refine Wk ?_
   first |refine aB ((aG acc).symm) ?_ |skip
   conv=>whnf
   refine bA ?_ ?_ ?_
   ·show(((aP acc).length+1:Nat):Int)≤_
    rw [aG];omega
   ·show((aP acc).length+1)*64≤_
    rw [aG];omega
   refine Wk ?_
   rw [a4,aO (n:=(i:Int)+1) (by omega) (by omega),show((i:Int)+1)=((i+1:Nat):Int) by omega]
   refine⟨(i+1,f+n,acc++ [mkZ f n]),hnext,?_,by show s.length- (i+1)<s.length-i;omega⟩
   refine bT [some ?k116_0] rfl rfl ?h3_116 ?h4_116 ?h5_116 ?h6_116 ?h7_116
   case' h7_116=>repeat' (first |exact trivial |rfl |exact .inl rfl |exact .inr rfl |exact id |exact(fun h=>Bool.noConfusion h)|refine And.intro ?_ ?_)
   case' h4_116=>rfl
   case' h6_116=>rfl
   case' h3_116=>repeat' (first |exact trivial |rfl |exact .inl rfl |exact .inr rfl |exact id |exact(fun h=>Bool.noConfusion h)|refine And.intro ?_ ?_)
   case' h5_116=>repeat' (first |exact trivial |rfl |exact .inl rfl |exact .inr rfl |exact id |exact(fun h=>Bool.noConfusion h)|refine And.intro ?_ ?_)
   ·exact aE3 acc (mkZ f n)
   ·show(aP acc).length+1=_
    rw [aG,zH];rfl
 have h3:i=s.length:=by simp at h3;omega
 rw [hI.done h3] at hk
 subst hk
 refine Wk ?_
 refine⟨[],trivial,rfl,trivial,rfl,?_⟩
 try subst hk
 repeat' (first |exact trivial |rfl |exact .inl rfl |exact .inr rfl |exact id |exact(fun h=>Bool.noConfusion h)|refine And.intro ?_ ?_)
 ·show 0+acc.length≤(aP acc).length
  rw [aG];omega
 ·exact cV (aG _)
end Go.Proofs.YtmhapcbjjpadnaaGreat
set_option maxRecDepth 40000
namespace Go.Proofs.YtmhapcbjjpadnaaGreat
open Go Go.Sk Go.RowKit Go.Shelf
def aK9:Ren:=⟨fun |21=>287 |27=>335 |28=>336 |35=>357 |39=>363 |n=>n,fun n=>n,fun n=>n⟩
theorem aH0:Lays2.n21 Tryz.prog aK9 where
 mixed:=by kernel_rfl
 f21:=Tryz.func287.trans (congrArg some (by kernel_rfl))
 f27:=Tryz.func335.trans (congrArg some (by kernel_rfl))
 f28:=Tryz.func336.trans (congrArg some (by kernel_rfl))
 f35:=Tryz.func357.trans (congrArg some (by kernel_rfl))
 f39:=Tryz.func363.trans (congrArg some (by kernel_rfl))
 t0:=Tryz.underlying0
 a0:=Tryz.isAgg0
 z0:=Tryz.sizeOf0
 v0:=Tryz.zeroValue0
 t3:=Tryz.underlying3
 a3:=Tryz.isAgg3
 z3:=Tryz.sizeOf3
 v3:=Tryz.zeroValue3
 t4:=Tryz.underlying4
 a4:=Tryz.isAgg4
 z4:=Tryz.sizeOf4
 v4:=Tryz.zeroValue4
 t22:=Tryz.underlying22
 a22:=Tryz.isAgg22
 z22:=Tryz.sizeOf22
 v22:=Tryz.zeroValue22
 i3:=by kernel_rfl
def wrote:Array Value→Nat→List Value→Array Value
 |arr,_,[]=>arr
 |arr,o,v::r=>wrote (arr.setIfInBounds o v) (o+1) r
theorem lQ:∀(vs:List Value) (o:Nat) (arr:Array Value),(wrote arr o vs).size=arr.size
 | [],_,_=>rfl
 |v::r,o,arr=>by rw [wrote,lQ r];simp
theorem oG:∀(vs:List Value) (o:Nat) (arr:Array Value) (j:Nat),o+vs.length≤arr.size→(wrote arr o vs)[j]? =if o≤j∧j<o+vs.length then vs[j-o]? else arr[j]?
 | [],o,arr,j,_=>by simp [wrote];intro h1 h2;omega
 |v::r,o,arr,j,h=>by
  simp only [zW] at h
  rw [wrote,oG r (o+1) _ j (by simp;omega)]
  simp only [zW]
  by_cases h1:j=o
  ·subst h1
   rw [if_neg (by omega),if_pos (by omega),Array.getElem?_setIfInBounds_self_of_lt (by omega)]
   simp
  ·by_cases h2:o+1≤j∧j<o+1+r.length
   ·rw [if_pos h2,if_pos (by omega),show j-o=(j- (o+1))+1 by omega,zM]
   ·rw [if_neg h2,if_neg (by omega),Array.getElem?_setIfInBounds_ne (by omega)]
theorem iM(b:Nat):∀(vs:List Value) (o:Nat) (w:World),(w.setCells b o vs).os=w.os∧(w.setCells b o vs).tape=w.tape∧(w.setCells b o vs).output=w.output
 | [],_,_=>⟨rfl,rfl,rfl⟩
 |v::r,o,w=>iM b r (o+1) (w.setCell ⟨b,o,none⟩ v)
theorem nC(h:Array Go.Obj)(ty:TypeId):∀(vs:List Value) (o:Nat) (w:World) (arr:Array Value),w.heap=h.push (.cells arr ty)→(w.setCells h.size o vs).heap=h.push (.cells (wrote arr o vs) ty)
 | [],_,_,_,e=>e
 |v::r,o,w,arr,e=>by
  rw [World.setCells,wrote]
  refine nC h ty r (o+1) _ _ ?_
  unfold World.setCell
  dsimp only
  rw [e]
  apply Array.ext_getElem?
  intro j
  rw [Array.getElem?_modify,zS,zS]
  by_cases hj:j=h.size
  ·subst hj;simp
  ·rw [if_neg (by omega),if_neg hj,if_neg hj]
theorem aX5(n:Int):(Value.int .i64 n).oneCell'=true:=rfl
def cY(l:List Int):List Value:=l.map fun x=>.int .i64 x
def gG(l:List Int)(i:Nat)(x:Int):List Int:=l.take i++x::l.drop i
theorem aSR {O:Nat→Prop} {w:World} {σ:Sg} {t:Bool} {l:List Int} {v:Value} (h:VR O w σ (.lst 1 t (aE l)) v):
 ∃a cap b o,v=.slice a l.length cap∧(l≠ []→a=some ⟨b,o,none⟩∧¬O b∧b<w.heap.size)∧l.length≤cap∧(t=true→cap=l.length)∧(∀(j:Nat) (u:Value),(cY l)[j]? =some u→w.cell? ⟨b,o+j,none⟩=some u):=by
 cases h with
 | @lst _ _ _ _ a cap b o cv ha hes hcap ht h1 h3 h2=>
   rw [aA] at hcap ht
   refine⟨a,cap,b,o,by rw [aA],fun hl=>ha (by cases l with |nil=>exact absurd rfl hl |cons _ _=>simp [aE]),hcap,ht,fun j u hj=>?_⟩
   simp only [cY,zV,zO] at hj
   obtain⟨x,hx,rfl⟩:=hj
   obtain⟨hlt,hx'⟩:=List.getElem?_eq_some_iff.1 hx
   have :=h2 j [.int .i64 x] 0 (.int .i64 x) (by simp [aE,hx]) rfl
   have hc:=h1 j 0 (by rw [aA];exact hlt) (by omega)
   cases hq:cv j 0 with
   |int k n=>rw [hq] at this;cases this;rw [hq] at hc;simpa using hc
   |_=>rw [hq] at this;cases this
theorem aRA {O:Nat→Prop} {w w':World} {σ:Sg} {arr:Array Value} {ty:TypeId×Bool} (hm:kQ w w' arr ty)(hO:¬O w.heap.size)(L:List Int)(cap:Nat)(hcap:L.length≤cap)(hg:∀(j:Nat) (u:Value),(cY L)[j]? =some u→arr[j]? =some u):
 VR O w' σ (.lst 1 false (aE L)) (.slice (some ⟨w.heap.size,0,none⟩) L.length cap):=by
 have hsz:w.heap.size<w'.heap.size:=by rw [hm.heap];simp
 rw [←aA L]
 refine .lst w.heap.size 0 (fun i _=>.int .i64 (L.getD i 0)) (fun _=>⟨rfl,hO,hsz⟩) (fun x hx=>by simp only [aE,zU] at hx;obtain⟨y,-,rfl⟩:=hx;rfl) (by rw [aA];exact hcap) (fun h=>by cases h) (fun i c hi hc=>?_) (fun _ _ _ _=>rfl) fun i x c y hx hy=>?_
 ·rw [aA] at hi
  obtain rfl:c=0:=by omega
  have h2:=hg i (.int .i64 (L.getD i 0)) (by simp [cY,hi])
  have hnew:=hm.new
  simp only [zP,Nat.mul_one,Nat.add_zero]
  rw [World.cell?,hnew]
  simpa using h2
 ·simp only [aE,zV,zO] at hx
  obtain⟨z,hz,rfl⟩:=hx
  cases c with
  |zero=>simp only [zN,Option.some.injEq] at hy;subst hy;simp [zJ,hz];exact .int _ _
  |succ c=>simp at hy
theorem aU.newBlock {U:Nat→Prop} {σ:Sg} {S:aD} {w w':World} {n:Nat} (hR:aU U σ S w n) {arr:Array Value} {ty:TypeId×Bool} (hm:kQ w w' arr ty):bS σ S w n σ S w' n∧aU U σ S w' n:=by
 have g:bS σ S w n σ S w' n:=⟨hm.keep _,fun b _ h=>h,fun _ _=>rfl,Nat.le_refl _⟩
 exact⟨g,hR.step g hR.fresh hR.inj fun k p hk=>.inl ⟨hk,fun b e c hs=>hm.old (hR.size ⟨k,p,e,c,hk,hs⟩)⟩⟩
theorem aPY(w:World)(i n cap:Nat)(x:Int)(l:List Int)(ty:TypeId)(hl:l.length=n)(hi:i<n)(z:Array Value)(hz:z.size=1)(hcap:n+1≤cap):
 ∃arr,kQ w ((((w.alloc (.cells (((cY l).take i).toArray++Builtin.zeroCells z (n+1-i)++Builtin.zeroCells z (cap- (n+1))) ty)).drew.setCells w.heap.size i [.int .i64 x]).drew).setCells w.heap.size (i+1) ((cY l).drop i)) arr (ty,false)∧
  ∀(j:Nat) (u:Value),(cY (gG l i x))[j]? =some u→arr[j]? =some u:=by
 have hv:(cY l).length=n:=by simp [cY,hl]
 generalize hA:((cY l).take i).toArray++Builtin.zeroCells z (n+1-i)++Builtin.zeroCells z (cap- (n+1))=A
 have hAs:A.size=cap:=by
  rw [←hA];simp [Builtin.zeroCells,hz,hv];omega
 have h1:(w.alloc (.cells A ty)).drew.heap=w.heap.push (.cells A ty):=rfl
 have h2:=nC w.heap ty [.int .i64 x] i _ A h1
 have h3:((w.alloc (.cells A ty)).drew.setCells w.heap.size i [.int .i64 x]).drew.heap=_:=h2
 have h4:=nC w.heap ty ((cY l).drop i) (i+1) _ _ h3
 have o1:=iM w.heap.size [.int .i64 x] i (w.alloc (.cells A ty)).drew
 have o2:=iM w.heap.size ((cY l).drop i) (i+1) ((w.alloc (.cells A ty)).drew.setCells w.heap.size i [.int .i64 x]).drew
 refine⟨_,⟨o2.1.trans o1.1,o2.2.1.trans o1.2.1,o2.2.2.trans o1.2.2,h4⟩,fun j u hj=>?_⟩
 have hd:((cY l).drop i).length=n-i:=by simp [hv]
 rw [oG _ _ _ _ (by rw [lQ,hd,hAs];omega),oG _ _ _ _ (by rw [hAs];simp;omega),hd]
 have hins:cY (gG l i x)=(cY l).take i++Value.int .i64 x::(cY l).drop i:=by simp [cY,gG]
 rw [hins,List.getElem?_append] at hj
 have ht:((cY l).take i).length=i:=by simp [hv];omega
 rw [ht] at hj
 split at hj
 ·rename_i hlt
  rw [if_neg (by omega),if_neg (by simp;omega),←hA,Array.append_assoc,zK (by simp [ht];omega)]
  simpa using hj
 ·rename_i hge
  by_cases he:j=i
  ·subst he
   rw [if_neg (by omega),if_pos (by simp)]
   simpa using hj
  ·have hj':((cY l).drop i)[j- (i+1)]? =some u:=by
    rw [show j-i=(j- (i+1))+1 by omega,zM] at hj;exact hj
   obtain⟨hlt,-⟩:=List.getElem?_eq_some_iff.1 hj'
   rw [hd] at hlt
   rw [if_pos (by omega)]
   exact hj'
theorem aSU(w:World)(n cap:Nat)(x:Int)(l:List Int)(ty:TypeId)(z:Array Value):
 ∃arr,kQ w (w.drew.alloc (.cells ((cY l++ [Value.int .i64 x]).toArray++Builtin.zeroCells z cap) ty)) arr (ty,false)∧
  ∀(j:Nat) (u:Value),(cY (gG l l.length x))[j]? =some u→arr[j]? =some u:=by
 refine⟨_,kQ.drewAlloc w _ ty,fun j u hj=>?_⟩
 have hins:cY (gG l l.length x)=cY l++ [Value.int .i64 x]:=by simp [cY,gG]
 rw [hins] at hj
 obtain⟨hlt,-⟩:=List.getElem?_eq_some_iff.1 hj
 rw [zK (by simpa using hlt)]
 simpa using hj
theorem jZ(l:List Int)(i:Nat)(x:Int):(gG l i x).length=l.length+1:=by simp [gG];omega
theorem aZZ(l:List Int)(i:Nat)(x:Int)(hi:i≤l.length)(hbig:(l.length+1)*8≤140737488355328):
 aN Tryz.prog 287 [.row 1 [[.int .i64 x]]] [.lst 1 true (aE l),.int .i64 i,.sl 0 0 1] (.lst 1 false (aE (gG l i x))) [.row 1 [[.int .i64 x]]]:=by
 intro U σ w cargs hR hn hargs
 obtain⟨c0,c1,c2,rfl⟩:∃a b c,cargs= #[a,b,c]:=by
  rcases cargs with ⟨L⟩
  match L,hn with
  | [a,b,c],_=>exact⟨a,b,c,rfl⟩
 have a0:=hargs 0 _ c0 rfl rfl
 have a1:=hargs 1 _ c1 rfl rfl
 have a2:=hargs 2 _ c2 rfl rfl
 obtain⟨a,cap,b,o,rfl,hb,hcap,ht,hcs⟩:=aSR a0
 obtain rfl:=ht rfl
 cases a1 with
 |int=>
  cases a2 with
  | @sl _ _ _ _ vb es vcap va hs hle ha=>
    have hob:=hR.obj 0 (.row 1 [[.int .i64 x]]) rfl
    rw [hs] at hob
    obtain⟨-,rfl,-,arr,ty,hblk,hasz,hcells⟩:=hob
    obtain⟨xv,hx1,-,hx2⟩:=hcells 0 _ 0 _ rfl rfl
    cases hx2 with
    |int=>
     obtain rfl:=ha (by omega)
     have hvs:∀(j:Nat) (v:Value),([Value.int .i64 x])[j]? =some v→w.cell? ⟨vb,0*1+j,none⟩=some v:=fun j v hj=>by
      cases j with
      |zero=>
       simp only [zN,Option.some.injEq] at hj
       subst hj
       rw [World.cell?,hblk]
       simpa using hx1
      |succ j=>simp at hj
     have fin:∀(w':World) (arr':Array Value) (ty':TypeId) (G:Nat),kQ w w' arr' (ty',false)→l.length+1≤G→(∀(j:Nat) (u:Value),(cY (gG l i x))[j]? =some u→arr'[j]? =some u)→
      ∃cv σ',(Ending.returned (.slice (some ⟨w.heap.size,0,none⟩) (l.length+1) G))=.returned cv∧aU U σ' (aM 0 [.row 1 [[.int .i64 x]]]) w' 1∧VR (Own U σ' (aM 0 [.row 1 [[.int .i64 x]]])) w' σ' (.lst 1 false (aE (gG l i x))) cv∧
       bS σ (aM 0 [.row 1 [[.int .i64 x]]]) w 1 σ' (aM 0 [.row 1 [[.int .i64 x]]]) w' 1:=fun w' arr' ty' G hm hG hg=>by
      obtain⟨g,hR'⟩:=aU.newBlock hR hm
      refine⟨_,σ,rfl,hR',?_,g⟩
      rw [←jZ l i x]
      refine aRA hm (fun h=>?_) _ _ (by rw [jZ];exact hG) hg
      rcases h with h |h
      ·exact absurd (hR.ulim _ h) (by omega)
      ·exact absurd (hR.size h) (by omega)
     have one:∀v∈cY l,v.oneCell'=true:=fun v hv=>by
      simp only [cY,zU] at hv;obtain⟨y,-,rfl⟩:=hv;rfl
     by_cases he:i=l.length
     ·subst he
      refine(Any2.slices_Insert_int_end_grow aH0 a l.length l.length vb (0*1) 1 (vcap-0) (cY l) [.int .i64 x] w (by omega) (by omega) (by omega) hbig (by simp [cY]) rfl (fun h=>?_) (fun a' h j v hj=>?_) hvs (by simp [aX5])).mono ?_
      ·cases l with
       |nil=>rfl
       |cons y r=>have :=(hb (by simp)).1;rw [h] at this;cases this
      ·have hne:l≠ []:=by rintro rfl;simp [cY] at hj
       have :=(hb hne).1
       rw [h] at this
       cases this
       rw [Addr.add_lit];exact hcs j v hj
      ·rintro e w' ⟨rfl,rfl⟩
       obtain⟨arr',hm,hg⟩:=aSU w l.length (grownCap w (l.length+1) l.length (aK9.t 3)- (l.length+1)) x l (aK9.t 3) (Value.int .i64 0).cells
       exact fin _ arr' _ _ hm (iJ _ _ _ _) hg
     ·have hne:l≠ []:=by rintro rfl;simp at hi;exact he (by simpa using hi)
      obtain⟨rfl,hnb,hbw⟩:=hb hne
      refine(Any2.slices_Insert_int_grow aH0 b o l.length l.length i vb (0*1) 1 (vcap-0) (cY l) [.int .i64 x] w (by omega) (by omega) (by omega) (by omega) hbig (by simp [cY]) rfl hcs hvs one (by simp [aX5])).mono ?_
      rintro e w' ⟨rfl,rfl⟩
      obtain⟨arr',hm,hg⟩:=aPY w i l.length (grownCap w (l.length+1) l.length (aK9.t 3)) x l (aK9.t 3) rfl (by omega) (Value.int .i64 0).cells rfl (iJ _ _ _ _)
      exact fin _ arr' _ _ hm (iJ _ _ _ _) hg
end Go.Proofs.YtmhapcbjjpadnaaGreat
set_option maxRecDepth 40000
namespace Go.Proofs.YtmhapcbjjpadnaaGreat
open Go Go.Sk Go.RowKit
theorem bCD(x:Int):aN Tryz.prog 208 [] [.int .i64 x] (.bool (x != x)) []:=by
 refine aF (ob0:= []) [] Tryz.func208 rfl rfl rfl rfl ?_
 refine Wk ?_
 try subst hk
 exact Lf
theorem aNV(x:Int):aN Tryz.prog 208 [] [.int .i64 x] (.bool false) []:=by
 have :=bCD x
 rwa [show(x != x)=false by simp] at this
theorem bCP(x:Int):aN Tryz.prog 334 [] [.int .i64 x] (.bool (x != x)) []:=by
 refine aF (ob0:= []) [] Tryz.func334 rfl rfl rfl rfl ?_
 refine Wk ?_
 try subst hk
 exact Lf
theorem aNZ(x:Int):aN Tryz.prog 334 [] [.int .i64 x] (.bool false) []:=by
 have :=bCP x
 rwa [show(x != x)=false by simp] at this
theorem bGQ(x y:Int):aN Tryz.prog 333 [] [.int .i64 x,.int .i64 y] (.bool (decide (x<y))) []:=by
 refine aF (ob0:= []) [] Tryz.func333 rfl rfl rfl rfl ?_
 refine vJ (aNV x) (aNV y) ?_
 try subst hk
 exact Lf
def eJ(l:List Int)(x:Int):Nat:=(l.takeWhile (decide<| ·<x)).length
theorem aL8:∀(l:List Int) (x:Int) (i:Nat),i≤l.length→(∀j,j<i→l.getD j 0<x)→(∀j,i≤j→j<l.length→x≤l.getD j 0)→eJ l x=i
 | [],_,i,h,_,_=>by simp at h;subst h;rfl
 |y::r,x,0,_,_,h2=>by
  have :=h2 0 (by omega) (by simp)
  simp only [zT] at this
  simp only [eJ,zI]
  rw [show decide (y<x)=false by simpa using this];rfl
 |y::r,x,i+1,h,h1,h2=>by
  have :=h1 0 (by omega)
  simp only [zT] at this
  have ih:=aL8 r x i (by simpa using h) (fun j hj=>by simpa using h1 (j+1) (by omega)) (fun j hj hj'=>by simpa using h2 (j+1) (by omega) (by simpa using hj'))
  simp only [eJ,zI]
  rw [show decide (y<x)=true by simpa using this]
  simpa [eJ] using ih
def vW(l:List Int)(x:Int):Bool:=bif decide (eJ l x<l.length) then l.getD (eJ l x) 0==x else false
set_option maxRecDepth 20000 in
theorem aZY(l:List Int)(t:Bool)(x:Int)(hl:l.length≤100000)(hs:l.Pairwise (·< ·)):aN Tryz.prog 286 [] [.lst 1 t (aE l),.int .i64 x] (.tup [.int .i64 (eJ l x),.bool (vW l x)]) []:=by
 have hmon:∀i j,i<j→j<l.length→l.getD i 0<l.getD j 0:=fun i j hij hj=>by
  rw [←eY l i (by omega),←eY l j hj]
  exact List.pairwise_iff_getElem.1 hs i j (by omega) hj hij
 refine aF (ob0:= []) [] Tryz.func286 rfl rfl rfl rfl ?_
 refine Wk ?_
 rw [aA]
 refine⟨Nat×Nat,fun p=>(p.1≤p.2∧p.2≤l.length)∧(∀j,j<p.1→l.getD j 0<x)∧(∀j,p.2≤j→j<l.length→x≤l.getD j 0),fun p=>⟨[(0,⟨[],true,.lst 1 t (aE l)⟩),(1,⟨[],true,.int .i64 x⟩),(6,⟨[],true,.int .i64 (l.length:Int)⟩),(7,⟨[],true,.int .i64 (p.1:Int)⟩),(8,⟨[],true,.int .i64 (p.2:Int)⟩)],[],0⟩,fun p=>p.2-p.1,⟨(0,l.length),⟨⟨by omega,by omega⟩,fun j hj=>by simp at hj,fun j hj hj'=>by simp only at hj;omega⟩,?_⟩,fun p hI=>?_⟩
 ·exact Vw []
 obtain⟨a,b⟩:=p
 obtain⟨⟨hI1,hI2⟩,hI3,hI4⟩:=hI
 simp only at hI1 hI2 hI3 hI4
 refine Wk ?_
 refine aC (fun h1=>?_) (fun h1=>?_)<;> try simp only [zC,zA,zE,zD,zG] at h1
 ·have h1:a<b:=by simpa using h1
  refine Wk ?_
  try first |refine aB (by decide) ?_ |refine aH (fun _=>by decide) ?_ |refine⟨fun _=>by decide,?_⟩
  refine Wk ?_
  have hm:IntKind.i64.wrap ((IntKind.u64.wrap (IntKind.i64.wrap ((((a,b).fst:Nat):Int)+(((a,b).snd:Nat):Int)))).fdiv (2^min (Int.toNat 1) IntKind.u64.bits))=(((a+b)/2:Nat):Int):=by
   simp only []
   rw [aO (n:=(a:Int)+b) (by omega) (by omega),show IntKind.u64.wrap ((a:Int)+b)=(a:Int)+b from by
    have :=Int.emod_eq_of_lt (a:=(a:Int)+b) (b:=18446744073709551616) (by omega) (by omega)
    simpa [IntKind.wrap,IntKind.bits,IntKind.signed] using this]
   have e:((a:Int)+b).fdiv (2^min (Int.toNat 1) IntKind.u64.bits)=((a:Int)+b)/2:=by
    rw [Int.fdiv_eq_ediv_of_nonneg _ (by decide)];rfl
   rw [e,aO (by omega) (by omega)]
   omega
  rw [hm]
  have hmid:a≤(a+b)/2∧(a+b)/2<b:=by omega
  generalize(a+b)/2=m at hm hmid
  first |refine aB (⟨rfl,by omega,by rw [aA];omega⟩) ?_ |refine aH (fun _=>⟨rfl,by omega,by rw [aA];omega⟩) ?_ |refine⟨fun _=>⟨rfl,by omega,by rw [aA];omega⟩,?_⟩
  rw [zF,bJ l m (by omega),eY]
  refine cC (bGQ (l.getD m 0) x) ?_
  refine aC (fun h2=>?_) (fun h2=>?_)<;> try simp only [zC,zA,zE,zD,zG] at h2
  ·have h2:l.getD m 0<x:=by simpa using h2
   refine Wk ?_
   rw [aO (n:=(m:Int)+1) (by omega) (by omega),show((m:Int)+1)=((m+1:Nat):Int) by omega]
   refine⟨(m+1,b),⟨⟨by show m+1≤b;omega,hI2⟩,fun j hj=>?_,hI4⟩,?_,by show b- (m+1)<b-a;omega⟩
   ·have hj:j<m+1:=hj
    by_cases e:j=m
    ·rw [e];exact h2
    ·have :=hmon j m (by omega) (by omega);omega
   exact Vw []
  have h2:x≤l.getD m 0:=by simpa using h2
  refine Wk ?_
  refine⟨(a,m),⟨⟨hmid.1,by show m≤l.length;omega⟩,hI3,fun j hj hj'=>?_⟩,?_,by show m-a<b-a;omega⟩
  ·have hj:m≤j:=hj
   by_cases e:j=m
   ·rw [e];exact h2
   ·have :=hmon m j (by omega) hj';omega
  exact Vw []
 have h1:a=b:=by simp at h1;omega
 subst h1
 have hat:=aL8 l x a hI2 hI3 hI4
 have hk:vW l x=(bif decide ((a:Int)< (l.length:Int)) then l.getD a 0==x else false):=by
  rw [vW,hat];congr 1;simp
 refine Wk ?_
 by_cases hlt:a<l.length
 ·have hd:decide ((((a,a).fst:Nat):Int)< (l.length:Int))=true:=by simpa using hlt
  rw [hd]
  first |refine aB (⟨rfl,by omega,by rw [aA];show(a:Int)<_;omega⟩) ?_ |refine aH (fun _=>⟨rfl,by omega,by rw [aA];show(a:Int)<_;omega⟩) ?_ |refine⟨fun _=>⟨rfl,by omega,by rw [aA];show(a:Int)<_;omega⟩,?_⟩
  rw [zF,bJ l a hlt,eY]
  refine vJ (aNZ (l.getD a 0)) (aNZ x) ?_
  first |refine aB (⟨rfl,by show(0:Int)≤(a:Int);omega,by rw [aA];show(a:Int)<_;omega⟩) ?_ |refine aH (fun _=>⟨rfl,by show(0:Int)≤(a:Int);omega,by rw [aA];show(a:Int)<_;omega⟩) ?_ |refine⟨fun _=>⟨rfl,by show(0:Int)≤(a:Int);omega,by rw [aA];show(a:Int)<_;omega⟩,?_⟩
  rw [zF,bJ l a hlt,eY]
  refine vJ (aNZ (l.getD a 0)) (aNZ x) ?_
  rw [hat,hk,show decide ((a:Int)< (l.length:Int))=true by simpa using hlt]
  refine⟨[],trivial,rfl,trivial,rfl,?_⟩
  try subst hk
  repeat' (first |exact trivial |rfl |exact .inl rfl |exact .inr rfl |exact id |exact(fun h=>Bool.noConfusion h)|refine And.intro ?_ ?_)
  cases l.getD a 0==x <;> rfl
 ·have hd:decide ((((a,a).fst:Nat):Int)< (l.length:Int))=false:=by simpa using hlt
  have hr:(aE l).getD a []=[]:=by rw [zJ,List.getElem?_eq_none (by rw [aA];omega)];rfl
  rw [hd]
  first |refine⟨fun h=>(by cases h),?_⟩|skip
  rw [zF,hr]
  refine Wk ?_
  rw [zF,hr]
  refine Wk ?_
  refine .inr ⟨fun h=>(by cases h),fun _=>?_⟩
  refine Wk ?_
  refine .inr ⟨fun h=>(by cases h),fun _=>?_⟩
  refine Wk ?_
  rw [hat,hk,show decide ((a:Int)< (l.length:Int))=false by simpa using hlt]
  try subst hk
  exact Lf
end Go.Proofs.YtmhapcbjjpadnaaGreat
set_option maxRecDepth 40000
namespace Go.Proofs.YtmhapcbjjpadnaaGreat
open Go Go.Sk Go.RowKit
def aS7(z:Zn)(f:Int):Zn:=⟨z.first,z.size,z.min,z.low,z.high,gG z.free (eJ z.free f) f,false⟩
def dW(base l:List Zn)(f:Int):List Zn×Int:=
 bif !bB l then(base,1) else bif decide (dI (inG f) l<0) then(base,2) else
 bif vW (l.getD (dI (inG f) l).toNat fQ).free f then(base,5) else
 (base.set (dI (inG f) l).toNat (aS7 (l.getD (dI (inG f) l).toNat fQ) f),0)
theorem vL(lo hi:Int)(l:List Int)(h:sM lo hi l l.length=true):l.Pairwise (·< ·):=by
 have step:∀i,i+1<l.length→l.getD i 0<l.getD (i+1) 0:=fun i hi=>by
  have :=rR lo _ l l.length (i+1) hi h
  simp only [jS,zR,Bool.and_eq_false_iff,decide_eq_false_iff_not] at this
  have h2:=this.2
  rw [Nat.add_sub_cancel] at h2
  omega
 have mon:∀d i,i+d+1<l.length→l.getD i 0<l.getD (i+d+1) 0:=fun d=>by
  induction d with
  |zero=>exact fun i hi=>step i hi
  |succ d ih=>
   intro i hi
   have h1:=ih i (by omega)
   have h2:=step (i+d+1) (by omega)
   rw [show i+(d+1)+1=i+d+1+1 by omega]
   omega
 refine List.pairwise_iff_getElem.2 fun i j hi hj hij=>?_
 rw [eY,eY]
 have :=mon (j-i-1) i (by omega)
 rwa [show i+(j-i-1)+1=j by omega] at this
theorem sZ:∀(l:List Int) (x:Int),eJ l x≤l.length
 | [],_=>Nat.le_refl 0
 |y::r,x=>by
  have :=sZ r x
  simp only [eJ,zI] at this⊢
  split <;> simp <;> omega
set_option maxRecDepth 20000 in
set_option maxHeartbeats 1000000 in
theorem aZT(l:List Zn)(t:Bool)(f:Int)(hl:eI l):aN Tryz.prog 247 [] [.lst 6 t (aP l),.int .i64 f] (.tup [.lst 6 false (aP (dW (l.map gU) l f).1),.int .i64 (dW (l.map gU) l f).2]) []:=by
 have hlen:=hl.len
 refine aF (ob0:= []) [] Tryz.func247 rfl rfl rfl rfl ?_
 generalize hk:dW (l.map gU) l f=q
 refine Wk ?_
 refine .inr ⟨fun _=>⟨[],_,_,_,aZG l t hl,trivial,rfl,rfl,rfl,?_⟩,(by intro h;cases h)⟩
 refine cC (aTG l t hl) ?_
 refine aC (fun h1=>?_) (fun h1=>?_)<;> try simp only [zC,zA,zE,zD,zG] at h1
 ·have h1:(!bB l)=true:=by rw [h1];rfl
  simp only [dW,h1,cond_true] at hk
  subst hk
  refine Wk ?_
  refine⟨[],trivial,rfl,trivial,rfl,?_⟩
  try subst hk
  repeat' (first |exact trivial |rfl |exact .inl rfl |exact .inr rfl |exact id |exact(fun h=>Bool.noConfusion h)|refine And.intro ?_ ?_)
  ·show 0+l.length≤_
   rw [aG];simp
  ·refine cV ?_
   rw [aG];simp
 have h1':bB l=true:=by simpa using h1
 have h1:(!bB l)=false:=by rw [h1'];rfl
 have hg:=oL h1'
 simp only [dW,h1,cond_false] at hk
 refine Wk ?_
 refine .inl ⟨_,fun _=>⟨?_,bGF l t 318 [.rp 1 [.int .i64 f] 0] (inG f) call58 rfl (fun x _=>bGM x f) (by omega)⟩,.inr rfl,?_⟩
 ·intro v hv
  have hv:v∈ [V.lst 6 t (aP l),V.fn 318 [V.ptr 0 0 0]]:=hv
  rcases List.mem_cons.1 hv with rfl |hv
  ·exact trivial
  ·obtain rfl:=List.mem_singleton.1 hv
   intro c hc
   obtain rfl:=List.mem_singleton.1 hc
   exact⟨rfl,rfl⟩
 refine Wk ?_
 refine aC (fun h2=>?_) (fun h2=>?_)<;> try simp only [zC,zA,zE,zD,zG] at h2
 ·simp only [h2,cond_true] at hk
  subst hk
  refine Wk ?_
  refine⟨[],trivial,rfl,trivial,rfl,?_⟩
  try subst hk
  repeat' (first |exact trivial |rfl |exact .inl rfl |exact .inr rfl |exact id |exact(fun h=>Bool.noConfusion h)|refine And.intro ?_ ?_)
  ·show 0+l.length≤_
   rw [aG];simp
  ·refine cV ?_
   rw [aG];simp
 simp only [h2,cond_false] at hk
 obtain⟨n,hn,hin,-,-⟩:=nT (inG f) l (by simpa using h2)
 rw [hin] at hk⊢
 rw [zF] at hk
 have hgn:=hg l[n] (zX hn)
 have hfn:=hl.free l[n] (zX hn)
 have hpw:=vL _ _ _ hgn.asc
 simp only [tI l n hn] at hk
 refine Wk ?_
 first |refine aB (⟨by omega,by omega⟩) ?_ |refine aH (fun _=>⟨by omega,by omega⟩) ?_ |refine⟨fun _=>⟨by omega,by omega⟩,?_⟩
 refine Wk ?_
 first |refine aB (by rw [aG];simp;omega) ?_ |refine aH (fun _=>by rw [aG];simp;omega) ?_ |refine⟨fun _=>by rw [aG];simp;omega,?_⟩
 refine Wk ?_
 rw [zP,zF,uH l n hn]
 refine cC (aZY l[n].free true f hfn hpw) ?_
 refine aC (fun h4=>?_) (fun h4=>?_)<;> try simp only [zC,zA,zE,zD,zG] at h4
 ·simp only [h4,cond_true] at hk
  subst hk
  refine Wk ?_
  refine⟨[],trivial,rfl,trivial,rfl,?_⟩
  try subst hk
  repeat' (first |exact trivial |rfl |exact .inl rfl |exact .inr rfl |exact id |exact(fun h=>Bool.noConfusion h)|refine And.intro ?_ ?_)
  ·show 0+l.length≤_
   rw [aG];simp
  ·refine cV ?_
   rw [aG];simp
 simp only [h4,cond_false] at hk
 refine Wk ?_
 first |refine aB (⟨by omega,by omega⟩) ?_ |refine aH (fun _=>⟨by omega,by omega⟩) ?_ |refine⟨fun _=>⟨by omega,by omega⟩,?_⟩
 refine Wk ?_
 first |refine aB (by rw [aG];simp;omega) ?_ |refine aH (fun _=>by rw [aG];simp;omega) ?_ |refine⟨fun _=>by rw [aG];simp;omega,?_⟩
 refine Wk ?_
 rw [zP,zF,uH l n hn]
 refine Wk ?_
 refine .inr ⟨fun _=>⟨[11408],_,_,_,aZZ l[n].free (eJ l[n].free f) f (sZ _ _) (by omega),⟨rfl,trivial⟩,rfl,rfl,rfl,?_⟩,(by intro h;cases h)⟩
 refine Wk ?_
 first |refine aB (⟨by omega,by omega⟩) ?_ |refine aH (fun _=>⟨by omega,by omega⟩) ?_ |refine⟨fun _=>⟨by omega,by omega⟩,?_⟩
 refine Wk ?_
 first |refine aB (by rw [aG];simp;omega) ?_ |refine⟨by rw [aG];simp;omega,?_⟩
 refine Wk ?_
 subst hk
 refine⟨[],trivial,rfl,trivial,rfl,?_⟩
 try subst hk
 repeat' (first |exact trivial |rfl |exact .inl rfl |exact .inr rfl |exact id |exact(fun h=>Bool.noConfusion h)|refine And.intro ?_ ?_)
 ·show 0+l.length≤_
  rw [List.length_set,aG];simp
 ·rw [zP,zF]
  refine(congrArg (fun r=>List.take l.length (List.drop 0 r)) (aC9 (l.map gU) n (by simp;omega) (gG l[n].free (eJ l[n].free f) f) false)).trans ?_
  refine(cV (by rw [aG];simp)).trans ?_
  simp only [List.getElem_map]
  rfl
end Go.Proofs.YtmhapcbjjpadnaaGreat
