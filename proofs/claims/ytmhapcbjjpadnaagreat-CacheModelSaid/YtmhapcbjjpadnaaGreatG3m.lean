/- Caches. -/
import Derived.Test.YtmhapcbjjpadnaaGreatG2m
import Derived.Shelf.Spec.SlicesInsertGrow
set_option linter.unusedSimpArgs false
set_option linter.unusedVariables false
open Array renaming getElem?_append_left→zJ,getElem?_push→zR
open Bool renaming cond_false_right→zA,cond_true_left→zC,not_eq_false'→zE,not_eq_true'→zF,not_not→zG,or_eq_false_iff→zQ
open Int renaming toNat_natCast→zD
open List renaming takeWhile_cons→zH,getD_eq_getElem?_getD→zI,drop_eq_getElem_cons→zK,getElem?_cons_succ→zL,getElem?_cons_zero→zM,map_append→zP,getD_cons_zero→zS,length_append→zT,mem_map→zU,getElem?_map→zV,length_cons→zW,getElem_mem→zX
open Nat renaming zero_add→zO
open Option renaming map_eq_some_iff→zN
set_option linter.constructorNameAsVariable false
set_option maxRecDepth 40000
namespace Go.Proofs.YtmhapcbjjpadnaaGreat
open Go Go.Sk Go.RowKit
def pJ(a b:Int):List Int:=(List.range (b-a).toNat).map fun(i:Nat)=>a+i
theorem aJN(a b:Int):(pJ a b).length=(b-a).toNat:=by simp [pJ]
theorem aUM(a b:Int)(h:b≤a):pJ a b=[]:=by
 have :(b-a).toNat=0:=by omega
 simp [pJ,this]
theorem aQM(a b:Int)(h:a≤b):pJ a (b+1)=pJ a b++ [b]:=by
 have :(b+1-a).toNat=(b-a).toNat+1:=by omega
 rw [pJ,pJ,this,List.range_succ,zP]
 congr 1
 simp only [List.map_cons,List.map_nil,List.cons.injEq,and_true]
 omega
theorem aIV(a b x:Int):x∈pJ a b↔a≤x∧x<b:=by
 simp only [pJ,zU,List.mem_range]
 constructor
 ·rintro ⟨i,h,rfl⟩;omega
 ·rintro ⟨h1,h2⟩;exact⟨(x-a).toNat,by omega,by omega⟩
theorem aLU(l:List Int)(x:Int):aJ l++ [[.int .i64 x]]=aJ (l++ [x]):=by rw [aJ,aJ,zP];rfl
theorem aLY(l:List Zn)(z:Zn):aW l++ [z.c]=aW (l++ [z]):=by rw [aW,aW,zP];rfl
def tW(n k:Int):Int:=IntKind.i64.wrap (n.tdiv k)
def mkZ(f n:Int):Zn:=⟨f,n,tW n 8,tW n 4,tW n 2,pJ f (f+n),false⟩
def aDZ(f n:Int):Bool:=(decide (n<1)||decide (64<n))||decide (65<IntKind.i64.wrap (f+n))
def newR(f:Int):List Int→Option (List Zn)
 | []=>some []
 |n::r=>bif aDZ f n then none else(newR (f+n) r).map (mkZ f n:: ·)
def newF(s:List Int):List Zn×Int:=bif (s.length:Int)==0 then([],1) else match newR 1 s with
 |none=>([],2)
 |some l=>(l,0)
structure aFR(s:List Int)(i:Nat)(f:Int)(acc:List Zn):Prop where
 le:i≤s.length
 len:acc.length≤i
 pos:1≤f∧f≤65
 res:newR 1 s=(newR f (s.drop i)).map (acc++ ·)
theorem tO {f n:Int} (hf:1≤f∧f≤65)(h:aDZ f n=false):1≤n∧n≤64∧f+n≤65∧IntKind.i64.wrap (f+n)=f+n:=by
 simp only [aDZ,zQ,decide_eq_false_iff_not] at h
 have :IntKind.i64.wrap (f+n)=f+n:=aY (by omega) (by omega)
 omega
theorem aFR.bad {s:List Int} {i:Nat} {f:Int} {acc:List Zn} (h:aFR s i f acc)(hi:i<s.length)(hb:aDZ f s[i]=true):newR 1 s=none:=by
 rw [h.res,zK hi,newR,hb];rfl
theorem aFR.next {s:List Int} {i:Nat} {f:Int} {acc:List Zn} (h:aFR s i f acc)(hi:i<s.length)(hb:aDZ f s[i]=false):aFR s (i+1) (f+s[i]) (acc++ [mkZ f s[i]]):=by
 obtain⟨a1,a2,a3,a4⟩:=tO h.pos hb
 have :=h.pos
 first |refine aE (by omega) (bZ (by have :=h.len;simp;omega) (by omega) ?_)|refine aE ⟨by omega,by have :=h.len;simp;omega,by omega⟩ ?_ |refine⟨by omega,by have :=h.len;simp;omega,by omega,?_⟩
 rw [h.res,zK hi,newR,hb,cond_false,Option.map_map]
 congr 1
 funext r
 simp
theorem aFR.done {s:List Int} {i:Nat} {f:Int} {acc:List Zn} (h:aFR s i f acc)(hi:i=s.length):newR 1 s=some acc:=by
 rw [h.res,hi,List.drop_length,newR];simp
set_option maxRecDepth 20000 in
set_option maxHeartbeats 1000000 in
theorem aZG(s:List Int)(t:Bool)(hs:s.length≤100000):aQ Tryz.prog 130 [] [.lst 1 t (aJ s)] (.tup [.lst 6 false (aW (newF s).1),.int .i64 (newF s).2]) []:=by
 refine aF (ob0:= []) [.p 40] Tryz.func130 rfl rfl rfl rfl ?_
 generalize hk:newF s=q
 refine Wk ?_
 rw [aB]
 refine aI (fun h1=>?_) (fun h1=>?_)<;> try simp only [zC,zA,zF,zE,zG] at h1
 ·simp only [newF,h1,cond_true] at hk
  subst hk
  refine Wk ?_
  try subst hk
  exact Lf
 simp only [newF,h1,cond_false] at hk
 refine Wk ?_
 rw [aB]
 refine⟨Nat×Int×List Zn,fun p=>aFR s p.1 p.2.1 p.2.2,fun p=>⟨[(4,⟨[],true,.sl 0 0 p.2.2.length⟩),(5,⟨[],true,.int .i64 p.2.1⟩),(13,⟨[],true,.lst 1 t (aJ s)⟩),(14,⟨[],true,.int .i64 (s.length:Int)⟩),(15,⟨[],true,.int .i64 (p.1:Int)⟩)],[(0,.row 6 (aW p.2.2))],1⟩,fun p=>s.length-p.1,⟨(0,1,[]),⟨by simp,by simp,by decide,by simp⟩,?_⟩,fun p hI=>?_⟩
 ·exact Vw [none]
 obtain⟨i,f,acc⟩:=p
 have hI:aFR s i f acc:=hI
 have hle:=hI.le
 have hpos:=hI.pos
 have hal:=hI.len
 refine Wk ?_
 refine aI (fun h3=>?_) (fun h3=>?_)<;> try simp only [zC,zA,zF,zE,zG] at h3
 ·have h3:i<s.length:=by simp at h3;omega
  refine Wk ?_
  first |refine aE (⟨rfl,by omega,by rw [aB];omega⟩) ?_ |refine aM (fun _=>⟨rfl,by omega,by rw [aB];omega⟩) ?_ |refine⟨fun _=>⟨rfl,by omega,by rw [aB];omega⟩,?_⟩
  rw [zD,dJ s i h3]
  have hbad:=hI.bad h3
  have hnext:=hI.next h3
  generalize s[i]=n at hbad hnext
  refine Wk ?_
  refine aI (fun h4=>?_) (fun h4=>?_)<;> try simp only [zC,zA,zF,zE,zG] at h4
  ·have h4:aDZ f n=true:=h4
   rw [hbad h4] at hk
   subst hk
   refine Wk ?_
   try subst hk
   exact Lf
  have h4:aDZ f n=false:=h4
  obtain⟨a1,a2,a3,a4⟩:=tO hpos h4
  have hnext:=hnext h4
  refine Wk ?_
  try first |refine aE (by decide) ?_ |refine aM (fun _=>by decide) ?_ |refine⟨fun _=>by decide,?_⟩
  refine Wk ?_
  try first |refine aE (by decide) ?_ |refine aM (fun _=>by decide) ?_ |refine⟨fun _=>by decide,?_⟩
  refine Wk ?_
  try first |refine aE (by decide) ?_ |refine aM (fun _=>by decide) ?_ |refine⟨fun _=>by decide,?_⟩
  refine Wk ?_
  refine⟨Unit,fun _=>True,fun _=>⟨[(4,⟨[],true,.sl 0 0 acc.length⟩),(5,⟨[],true,.int .i64 f⟩),(7,⟨[],true,.int .i64 n⟩),(8,⟨[],true,.ptr 1 0 0⟩),(13,⟨[],true,.lst 1 t (aJ s)⟩),(14,⟨[],true,.int .i64 (s.length:Int)⟩),(15,⟨[],true,.int .i64 (i:Int)⟩)],
   [(0,.row 6 (aW acc)),(1,.box (mkZ f n).c)],2⟩,?_,fun _ _=>?_⟩
  ·refine Wk ?_
   refine⟨Nat×List Int,fun y=>(y.1:Int)≤n∧y.2=pJ f (f+y.1),fun y=>⟨[(4,⟨[],true,.sl 0 0 acc.length⟩),(5,⟨[],true,.int .i64 f⟩),(7,⟨[],true,.int .i64 n⟩),(8,⟨[],true,.ptr 1 0 0⟩),(9,⟨[],true,.int .i64 (f+(y.1:Int))⟩),(13,⟨[],true,.lst 1 t (aJ s)⟩),(14,⟨[],true,.int .i64 (s.length:Int)⟩),(15,⟨[],true,.int .i64 (i:Int)⟩)],
    [(0,.row 6 (aW acc)),(1,.box [.int .i64 f,.int .i64 n,.int .i64 (tW n 8),.int .i64 (tW n 4),.int .i64 (tW n 2),.sl 2 0 y.2.length]),(2,.row 1 (aJ y.2))],3⟩,fun y=>100-y.1,⟨(0,[]),⟨by simp;omega,by rw [aUM _ _ (by simp)]⟩,?_⟩,fun y hy=>?_⟩
   ·refine cO [some 0,some 1,none] rfl rfl ?_ rfl ?_ rfl ?_
    repeat' (first |exact trivial |rfl |exact .inl rfl |exact .inr rfl |exact id |exact(fun h=>Bool.noConfusion h)|refine And.intro ?_ ?_)
    exact(Int.add_zero _).symm
   obtain⟨k,out⟩:=y
   obtain⟨hy1,hy2⟩:=hy
   simp only at hy1 hy2
   have hlen:out.length=k:=by rw [hy2,aJN];omega
   have hw1:IntKind.i64.wrap (f+(k:Int)+1)=f+((k+1:Nat):Int):=by rw [aY (by omega) (by omega)];omega
   refine Wk ?_
   rw [a4]
   refine aI (fun h5=>?_) (fun h5=>?_)<;> try simp only [zC,zA,zF,zE,zG] at h5
   ·have h5:(k:Int)<n:=by simp at h5;omega
    refine Wk ?_
    refine aE (aB out).symm ?_
    refine Wk ?_
    refine bZ ?_ ?_ ?_
    ·show(((aJ out).length+1:Nat):Int)≤_
     rw [aB];omega
    ·show((aJ out).length+1)*8≤_
     rw [aB];omega
    refine Wk ?_
    rw [hw1]
    refine⟨(k+1,pJ f (f+((k+1:Nat):Int))),⟨by show((k+1:Nat):Int)≤_;omega,rfl⟩,?_,by show 100- (k+1)<100-k;omega⟩
    have hs1:pJ f (f+((k+1:Nat):Int))=out++ [f+(k:Int)]:=by
     rw [show f+((k+1:Nat):Int)=f+(k:Int)+1 by omega,aQM _ _ (by omega),hy2]
    rw [hs1]
    refine cO [some 0,some 1,some 4] rfl rfl ?_ rfl ?_ rfl ?_
    repeat' (first |exact trivial |rfl |exact .inl rfl |exact .inr rfl |exact id |exact(fun h=>Bool.noConfusion h)|refine And.intro ?_ ?_)
    ·show(aJ out).length+1=_
     rw [aB,zT];rfl
    ·exact aLU out _
   have h5:(k:Int)=n:=by simp at h5;omega
   refine Wk ?_
   refine⟨(),trivial,?_⟩
   refine cO [some ?k143_0,some ?k143_1] rfl rfl ?h3_143 ?h4_143 ?h5_143 ?h6_143 ?h7_143
   case' h7_143=>repeat' (first |exact trivial |rfl |exact .inl rfl |exact .inr rfl |exact id |exact(fun h=>Bool.noConfusion h)|refine And.intro ?_ ?_)
   case' h4_143=>rfl
   case' h6_143=>rfl
   case' h3_143=>repeat' (first |exact trivial |rfl |exact .inl rfl |exact .inr rfl |exact id |exact(fun h=>Bool.noConfusion h)|refine And.intro ?_ ?_)
   case' h5_143=>repeat' (first |exact trivial |rfl |exact .inl rfl |exact .inr rfl |exact id |exact(fun h=>Bool.noConfusion h)|refine And.intro ?_ ?_)
   ·show 0+out.length≤(aJ out).length
    rw [aB];omega
   ·refine(eF (aB _)).trans ?_
    show aJ out=aJ (pJ f (f+n))
    rw [hy2,h5]
  ·refine Wk ?_
   first |refine aE ((aG acc).symm) ?_ |skip
   conv=>whnf
   refine bZ ?_ ?_ ?_
   ·show(((aW acc).length+1:Nat):Int)≤_
    rw [aG];omega
   ·show((aW acc).length+1)*64≤_
    rw [aG];omega
   refine Wk ?_
   rw [a4,aY (n:=(i:Int)+1) (by omega) (by omega),show((i:Int)+1)=((i+1:Nat):Int) by omega]
   refine⟨(i+1,f+n,acc++ [mkZ f n]),hnext,?_,by show s.length- (i+1)<s.length-i;omega⟩
   refine cO [some ?k165_0] rfl rfl ?h3_165 ?h4_165 ?h5_165 ?h6_165 ?h7_165
   case' h7_165=>repeat' (first |exact trivial |rfl |exact .inl rfl |exact .inr rfl |exact id |exact(fun h=>Bool.noConfusion h)|refine And.intro ?_ ?_)
   case' h4_165=>rfl
   case' h6_165=>rfl
   case' h3_165=>repeat' (first |exact trivial |rfl |exact .inl rfl |exact .inr rfl |exact id |exact(fun h=>Bool.noConfusion h)|refine And.intro ?_ ?_)
   case' h5_165=>repeat' (first |exact trivial |rfl |exact .inl rfl |exact .inr rfl |exact id |exact(fun h=>Bool.noConfusion h)|refine And.intro ?_ ?_)
   ·exact aLY acc (mkZ f n)
   ·show(aW acc).length+1=_
    rw [aG,zT];rfl
 have h3:i=s.length:=by simp at h3;omega
 rw [hI.done h3] at hk
 subst hk
 refine Wk ?_
 refine⟨[],trivial,rfl,trivial,rfl,?_⟩
 try subst hk
 repeat' (first |exact trivial |rfl |exact .inl rfl |exact .inr rfl |exact id |exact(fun h=>Bool.noConfusion h)|refine And.intro ?_ ?_)
 ·show 0+acc.length≤(aW acc).length
  rw [aG];omega
 ·exact eF (aG _)
end Go.Proofs.YtmhapcbjjpadnaaGreat
set_option maxRecDepth 40000
namespace Go.Proofs.YtmhapcbjjpadnaaGreat
open Go Go.Sk Go.RowKit
end Go.Proofs.YtmhapcbjjpadnaaGreat
set_option maxRecDepth 40000
namespace Go.Proofs.YtmhapcbjjpadnaaGreat
open Go Go.Sk Go.RowKit Go.Shelf
def aJF:Ren:=⟨fun |21=>287 |27=>335 |28=>336 |35=>357 |39=>363 |n=>n,fun n=>n,fun n=>n⟩
theorem aGG:Lays2.n21 Tryz.prog aJF where
 mixed:=by kernel_rfl
 f21:=Tryz.func287.trans (congrArg some (by kernel_rfl))
 f27:=Tryz.func335.trans (congrArg some (by kernel_rfl))
 f28:=Tryz.func336.trans (congrArg some (by kernel_rfl))
 f35:=Tryz.func357.trans (congrArg some (by kernel_rfl))
 f39:=Tryz.func363.trans (congrArg some (by kernel_rfl))
 t0:=Tryz.underlying0
 a0:=Tryz.isAgg0
 z0:=Tryz.sizeOf0
 v0:=Tryz.zeroValue0
 t3:=Tryz.underlying3
 a3:=Tryz.isAgg3
 z3:=Tryz.sizeOf3
 v3:=Tryz.zeroValue3
 t4:=Tryz.underlying4
 a4:=Tryz.isAgg4
 z4:=Tryz.sizeOf4
 v4:=Tryz.zeroValue4
 t22:=Tryz.underlying22
 a22:=Tryz.isAgg22
 z22:=Tryz.sizeOf22
 v22:=Tryz.zeroValue22
 i3:=by kernel_rfl
def wrote:Array Value→Nat→List Value→Array Value
 |arr,_,[]=>arr
 |arr,o,v::r=>wrote (arr.setIfInBounds o v) (o+1) r
theorem lN:∀(vs:List Value) (o:Nat) (arr:Array Value),(wrote arr o vs).size=arr.size
 | [],_,_=>rfl
 |v::r,o,arr=>by rw [wrote,lN r];simp
theorem oC:∀(vs:List Value) (o:Nat) (arr:Array Value) (j:Nat),o+vs.length≤arr.size→(wrote arr o vs)[j]? =if o≤j∧j<o+vs.length then vs[j-o]? else arr[j]?
 | [],o,arr,j,_=>by simp [wrote];intro h1 h2;omega
 |v::r,o,arr,j,h=>by
  simp only [zW] at h
  rw [wrote,oC r (o+1) _ j (by simp;omega)]
  simp only [zW]
  by_cases h1:j=o
  ·subst h1
   rw [if_neg (by omega),if_pos (by omega),Array.getElem?_setIfInBounds_self_of_lt (by omega)]
   simp
  ·by_cases h2:o+1≤j∧j<o+1+r.length
   ·rw [if_pos h2,if_pos (by omega),show j-o=(j- (o+1))+1 by omega,zL]
   ·rw [if_neg h2,if_neg (by omega),Array.getElem?_setIfInBounds_ne (by omega)]
theorem iH(b:Nat):∀(vs:List Value) (o:Nat) (w:World),(w.setCells b o vs).os=w.os∧(w.setCells b o vs).tape=w.tape∧(w.setCells b o vs).output=w.output
 | [],_,_=>⟨rfl,rfl,rfl⟩
 |v::r,o,w=>iH b r (o+1) (w.setCell ⟨b,o,none⟩ v)
theorem mW(h:Array Go.Obj)(ty:TypeId):∀(vs:List Value) (o:Nat) (w:World) (arr:Array Value),w.heap=h.push (.cells arr ty)→(w.setCells h.size o vs).heap=h.push (.cells (wrote arr o vs) ty)
 | [],_,_,_,e=>e
 |v::r,o,w,arr,e=>by
  rw [World.setCells,wrote]
  refine mW h ty r (o+1) _ _ ?_
  unfold World.setCell
  dsimp only
  rw [e]
  apply Array.ext_getElem?
  intro j
  rw [Array.getElem?_modify,zR,zR]
  by_cases hj:j=h.size
  ·subst hj;simp
  ·rw [if_neg (by omega),if_neg hj,if_neg hj]
theorem aXD(n:Int):(Value.int .i64 n).oneCell'=true:=rfl
def cU(l:List Int):List Value:=l.map fun x=>.int .i64 x
def jY(l:List Int)(i:Nat)(x:Int):List Int:=l.take i++x::l.drop i
theorem aSN {O:Nat→Prop} {w:World} {σ:Sg} {t:Bool} {l:List Int} {v:Value} (h:VR O w σ (.lst 1 t (aJ l)) v):
 ∃a cap b o,v=.slice a l.length cap∧(l≠ []→a=some ⟨b,o,none⟩∧¬O b∧b<w.heap.size)∧l.length≤cap∧(t=true→cap=l.length)∧(∀(j:Nat) (u:Value),(cU l)[j]? =some u→w.cell? ⟨b,o+j,none⟩=some u):=by
 cases h with
 | @lst _ _ _ _ a cap b o cv ha hes hcap ht h1 h3 h2=>
   rw [aB] at hcap ht
   refine⟨a,cap,b,o,by rw [aB],fun hl=>ha (by cases l with |nil=>exact absurd rfl hl |cons _ _=>simp [aJ]),hcap,ht,fun j u hj=>?_⟩
   simp only [cU,zV,zN] at hj
   obtain⟨x,hx,rfl⟩:=hj
   obtain⟨hlt,hx'⟩:=List.getElem?_eq_some_iff.1 hx
   have :=h2 j [.int .i64 x] 0 (.int .i64 x) (by simp [aJ,hx]) rfl
   have hc:=h1 j 0 (by rw [aB];exact hlt) (by omega)
   cases hq:cv j 0 with
   |int k n=>rw [hq] at this;cases this;rw [hq] at hc;simpa using hc
   |_=>rw [hq] at this;cases this
theorem aR7 {O:Nat→Prop} {w w':World} {σ:Sg} {arr:Array Value} {ty:TypeId×Bool} (hm:kP w w' arr ty)(hO:¬O w.heap.size)(L:List Int)(cap:Nat)(hcap:L.length≤cap)(hg:∀(j:Nat) (u:Value),(cU L)[j]? =some u→arr[j]? =some u):
 VR O w' σ (.lst 1 false (aJ L)) (.slice (some ⟨w.heap.size,0,none⟩) L.length cap):=by
 have hsz:w.heap.size<w'.heap.size:=by rw [hm.heap];simp
 rw [←aB L]
 refine .lst w.heap.size 0 (fun i _=>.int .i64 (L.getD i 0)) (fun _=>⟨rfl,hO,hsz⟩) (fun x hx=>by simp only [aJ,zU] at hx;obtain⟨y,-,rfl⟩:=hx;rfl) (by rw [aB];exact hcap) (fun h=>by cases h) (fun i c hi hc=>?_) (fun _ _ _ _=>rfl) fun i x c y hx hy=>?_
 ·rw [aB] at hi
  obtain rfl:c=0:=by omega
  have h2:=hg i (.int .i64 (L.getD i 0)) (by simp [cU,hi])
  have hnew:=hm.new
  simp only [zO,Nat.mul_one,Nat.add_zero]
  rw [World.cell?,hnew]
  simpa using h2
 ·simp only [aJ,zV,zN] at hx
  obtain⟨z,hz,rfl⟩:=hx
  cases c with
  |zero=>simp only [zM,Option.some.injEq] at hy;subst hy;simp [zI,hz];exact .int _ _
  |succ c=>simp at hy
theorem aS.newBlock {U:Nat→Prop} {σ:Sg} {S:aC} {w w':World} {n:Nat} (hR:aS U σ S w n) {arr:Array Value} {ty:TypeId×Bool} (hm:kP w w' arr ty):bL σ S w n σ S w' n∧aS U σ S w' n:=by
 have g:bL σ S w n σ S w' n:=⟨hm.keep _,fun b _ h=>h,fun _ _=>rfl,Nat.le_refl _⟩
 exact⟨g,hR.step g hR.fresh hR.inj fun k p hk=>.inl ⟨hk,fun b e c hs=>hm.old (hR.size ⟨k,p,e,c,hk,hs⟩)⟩⟩
theorem aPR(w:World)(i n cap:Nat)(x:Int)(l:List Int)(ty:TypeId)(hl:l.length=n)(hi:i<n)(z:Array Value)(hz:z.size=1)(hcap:n+1≤cap):
 ∃arr,kP w ((((w.alloc (.cells (((cU l).take i).toArray++Builtin.zeroCells z (n+1-i)++Builtin.zeroCells z (cap- (n+1))) ty)).drew.setCells w.heap.size i [.int .i64 x]).drew).setCells w.heap.size (i+1) ((cU l).drop i)) arr (ty,false)∧
  ∀(j:Nat) (u:Value),(cU (jY l i x))[j]? =some u→arr[j]? =some u:=by
 have hv:(cU l).length=n:=by simp [cU,hl]
 generalize hA:((cU l).take i).toArray++Builtin.zeroCells z (n+1-i)++Builtin.zeroCells z (cap- (n+1))=A
 have hAs:A.size=cap:=by
  rw [←hA];simp [Builtin.zeroCells,hz,hv];omega
 have h1:(w.alloc (.cells A ty)).drew.heap=w.heap.push (.cells A ty):=rfl
 have h2:=mW w.heap ty [.int .i64 x] i _ A h1
 have h3:((w.alloc (.cells A ty)).drew.setCells w.heap.size i [.int .i64 x]).drew.heap=_:=h2
 have h4:=mW w.heap ty ((cU l).drop i) (i+1) _ _ h3
 have o1:=iH w.heap.size [.int .i64 x] i (w.alloc (.cells A ty)).drew
 have o2:=iH w.heap.size ((cU l).drop i) (i+1) ((w.alloc (.cells A ty)).drew.setCells w.heap.size i [.int .i64 x]).drew
 refine⟨_,⟨o2.1.trans o1.1,o2.2.1.trans o1.2.1,o2.2.2.trans o1.2.2,h4⟩,fun j u hj=>?_⟩
 have hd:((cU l).drop i).length=n-i:=by simp [hv]
 rw [oC _ _ _ _ (by rw [lN,hd,hAs];omega),oC _ _ _ _ (by rw [hAs];simp;omega),hd]
 have hins:cU (jY l i x)=(cU l).take i++Value.int .i64 x::(cU l).drop i:=by simp [cU,jY]
 rw [hins,List.getElem?_append] at hj
 have ht:((cU l).take i).length=i:=by simp [hv];omega
 rw [ht] at hj
 split at hj
 ·rename_i hlt
  rw [if_neg (by omega),if_neg (by simp;omega),←hA,Array.append_assoc,zJ (by simp [ht];omega)]
  simpa using hj
 ·rename_i hge
  by_cases he:j=i
  ·subst he
   rw [if_neg (by omega),if_pos (by simp)]
   simpa using hj
  ·have hj':((cU l).drop i)[j- (i+1)]? =some u:=by
    rw [show j-i=(j- (i+1))+1 by omega,zL] at hj;exact hj
   obtain⟨hlt,-⟩:=List.getElem?_eq_some_iff.1 hj'
   rw [hd] at hlt
   rw [if_pos (by omega)]
   exact hj'
theorem aST(w:World)(n cap:Nat)(x:Int)(l:List Int)(ty:TypeId)(z:Array Value):
 ∃arr,kP w (w.drew.alloc (.cells ((cU l++ [Value.int .i64 x]).toArray++Builtin.zeroCells z cap) ty)) arr (ty,false)∧
  ∀(j:Nat) (u:Value),(cU (jY l l.length x))[j]? =some u→arr[j]? =some u:=by
 refine⟨_,kP.drewAlloc w _ ty,fun j u hj=>?_⟩
 have hins:cU (jY l l.length x)=cU l++ [Value.int .i64 x]:=by simp [cU,jY]
 rw [hins] at hj
 obtain⟨hlt,-⟩:=List.getElem?_eq_some_iff.1 hj
 rw [zJ (by simpa using hlt)]
 simpa using hj
theorem qN(l:List Int)(i:Nat)(x:Int):(jY l i x).length=l.length+1:=by simp [jY];omega
theorem bA8(l:List Int)(i:Nat)(x:Int)(hi:i≤l.length)(hbig:(l.length+1)*8≤140737488355328):
 aQ Tryz.prog 287 [.row 1 [[.int .i64 x]]] [.lst 1 true (aJ l),.int .i64 i,.sl 0 0 1] (.lst 1 false (aJ (jY l i x))) [.row 1 [[.int .i64 x]]]:=by
 intro U σ w cargs hR hn hargs
 obtain⟨c0,c1,c2,rfl⟩:∃a b c,cargs= #[a,b,c]:=by
  rcases cargs with ⟨L⟩
  match L,hn with
  | [a,b,c],_=>exact⟨a,b,c,rfl⟩
 have a0:=hargs 0 _ c0 rfl rfl
 have a1:=hargs 1 _ c1 rfl rfl
 have a2:=hargs 2 _ c2 rfl rfl
 obtain⟨a,cap,b,o,rfl,hb,hcap,ht,hcs⟩:=aSN a0
 obtain rfl:=ht rfl
 cases a1 with
 |int=>
  cases a2 with
  | @sl _ _ _ _ vb es vcap va hs hle ha=>
    have hob:=hR.obj 0 (.row 1 [[.int .i64 x]]) rfl
    rw [hs] at hob
    obtain⟨-,rfl,-,arr,ty,hblk,hasz,hcells⟩:=hob
    obtain⟨xv,hx1,-,hx2⟩:=hcells 0 _ 0 _ rfl rfl
    cases hx2 with
    |int=>
     obtain rfl:=ha (by omega)
     have hvs:∀(j:Nat) (v:Value),([Value.int .i64 x])[j]? =some v→w.cell? ⟨vb,0*1+j,none⟩=some v:=fun j v hj=>by
      cases j with
      |zero=>
       simp only [zM,Option.some.injEq] at hj
       subst hj
       rw [World.cell?,hblk]
       simpa using hx1
      |succ j=>simp at hj
     have fin:∀(w':World) (arr':Array Value) (ty':TypeId) (G:Nat),kP w w' arr' (ty',false)→l.length+1≤G→(∀(j:Nat) (u:Value),(cU (jY l i x))[j]? =some u→arr'[j]? =some u)→
      ∃cv σ',(Ending.returned (.slice (some ⟨w.heap.size,0,none⟩) (l.length+1) G))=.returned cv∧aS U σ' (aL 0 [.row 1 [[.int .i64 x]]]) w' 1∧VR (Own U σ' (aL 0 [.row 1 [[.int .i64 x]]])) w' σ' (.lst 1 false (aJ (jY l i x))) cv∧
       bL σ (aL 0 [.row 1 [[.int .i64 x]]]) w 1 σ' (aL 0 [.row 1 [[.int .i64 x]]]) w' 1:=fun w' arr' ty' G hm hG hg=>by
      obtain⟨g,hR'⟩:=aS.newBlock hR hm
      refine⟨_,σ,rfl,hR',?_,g⟩
      rw [←qN l i x]
      refine aR7 hm (fun h=>?_) _ _ (by rw [qN];exact hG) hg
      rcases h with h |h
      ·exact absurd (hR.ulim _ h) (by omega)
      ·exact absurd (hR.size h) (by omega)
     have one:∀v∈cU l,v.oneCell'=true:=fun v hv=>by
      simp only [cU,zU] at hv;obtain⟨y,-,rfl⟩:=hv;rfl
     by_cases he:i=l.length
     ·subst he
      refine(Any2.slices_Insert_int_end_grow aGG a l.length l.length vb (0*1) 1 (vcap-0) (cU l) [.int .i64 x] w (by omega) (by omega) (by omega) hbig (by simp [cU]) rfl (fun h=>?_) (fun a' h j v hj=>?_) hvs (by simp [aXD])).mono ?_
      ·cases l with
       |nil=>rfl
       |cons y r=>have :=(hb (by simp)).1;rw [h] at this;cases this
      ·have hne:l≠ []:=by rintro rfl;simp [cU] at hj
       have :=(hb hne).1
       rw [h] at this
       cases this
       rw [Addr.add_lit];exact hcs j v hj
      ·rintro e w' ⟨rfl,rfl⟩
       obtain⟨arr',hm,hg⟩:=aST w l.length (grownCap w (l.length+1) l.length (aJF.t 3)- (l.length+1)) x l (aJF.t 3) (Value.int .i64 0).cells
       exact fin _ arr' _ _ hm (iA _ _ _ _) hg
     ·have hne:l≠ []:=by rintro rfl;simp at hi;exact he (by simpa using hi)
      obtain⟨rfl,hnb,hbw⟩:=hb hne
      refine(Any2.slices_Insert_int_grow aGG b o l.length l.length i vb (0*1) 1 (vcap-0) (cU l) [.int .i64 x] w (by omega) (by omega) (by omega) (by omega) hbig (by simp [cU]) rfl hcs hvs one (by simp [aXD])).mono ?_
      rintro e w' ⟨rfl,rfl⟩
      obtain⟨arr',hm,hg⟩:=aPR w i l.length (grownCap w (l.length+1) l.length (aJF.t 3)) x l (aJF.t 3) rfl (by omega) (Value.int .i64 0).cells rfl (iA _ _ _ _)
      exact fin _ arr' _ _ hm (iA _ _ _ _) hg
end Go.Proofs.YtmhapcbjjpadnaaGreat
set_option maxRecDepth 40000
namespace Go.Proofs.YtmhapcbjjpadnaaGreat
open Go Go.Sk Go.RowKit
theorem bCK(x:Int):aQ Tryz.prog 208 [] [.int .i64 x] (.bool (x != x)) []:=by
 refine aF (ob0:= []) [] Tryz.func208 rfl rfl rfl rfl ?_
 refine Wk ?_
 try subst hk
 exact Lf
theorem aNS(x:Int):aQ Tryz.prog 208 [] [.int .i64 x] (.bool false) []:=by
 have :=bCK x
 rwa [show(x != x)=false by simp] at this
theorem bCS(x:Int):aQ Tryz.prog 334 [] [.int .i64 x] (.bool (x != x)) []:=by
 refine aF (ob0:= []) [] Tryz.func334 rfl rfl rfl rfl ?_
 refine Wk ?_
 try subst hk
 exact Lf
theorem aNW(x:Int):aQ Tryz.prog 334 [] [.int .i64 x] (.bool false) []:=by
 have :=bCS x
 rwa [show(x != x)=false by simp] at this
theorem bG6(x y:Int):aQ Tryz.prog 333 [] [.int .i64 x,.int .i64 y] (.bool (decide (x<y))) []:=by
 refine aF (ob0:= []) [] Tryz.func333 rfl rfl rfl rfl ?_
 refine Wk2 (aNS x) (aNS y) ?_
 try subst hk
 exact Lf
def pP(l:List Int)(x:Int):Nat:=(l.takeWhile (decide<| ·<x)).length
theorem aKL:∀(l:List Int) (x:Int) (i:Nat),i≤l.length→(∀j,j<i→l.getD j 0<x)→(∀j,i≤j→j<l.length→x≤l.getD j 0)→pP l x=i
 | [],_,i,h,_,_=>by simp at h;subst h;rfl
 |y::r,x,0,_,_,h2=>by
  have :=h2 0 (by omega) (by simp)
  simp only [zS] at this
  simp only [pP,zH]
  rw [show decide (y<x)=false by simpa using this];rfl
 |y::r,x,i+1,h,h1,h2=>by
  have :=h1 0 (by omega)
  simp only [zS] at this
  have ih:=aKL r x i (by simpa using h) (fun j hj=>by simpa using h1 (j+1) (by omega)) (fun j hj hj'=>by simpa using h2 (j+1) (by omega) (by simpa using hj'))
  simp only [pP,zH]
  rw [show decide (y<x)=true by simpa using this]
  simpa [pP] using ih
def aCR(l:List Int)(x:Int):Bool:=bif decide (pP l x<l.length) then l.getD (pP l x) 0==x else false
set_option maxRecDepth 20000 in
theorem bA7(l:List Int)(t:Bool)(x:Int)(hl:l.length≤100000)(hs:l.Pairwise (·< ·)):aQ Tryz.prog 286 [] [.lst 1 t (aJ l),.int .i64 x] (.tup [.int .i64 (pP l x),.bool (aCR l x)]) []:=by
 have hmon:∀i j,i<j→j<l.length→l.getD i 0<l.getD j 0:=fun i j hij hj=>by
  rw [←fV l i (by omega),←fV l j hj]
  exact List.pairwise_iff_getElem.1 hs i j (by omega) hj hij
 refine aF (ob0:= []) [] Tryz.func286 rfl rfl rfl rfl ?_
 refine Wk ?_
 rw [aB]
 refine⟨Nat×Nat,fun p=>(p.1≤p.2∧p.2≤l.length)∧(∀j,j<p.1→l.getD j 0<x)∧(∀j,p.2≤j→j<l.length→x≤l.getD j 0),fun p=>⟨[(0,⟨[],true,.lst 1 t (aJ l)⟩),(1,⟨[],true,.int .i64 x⟩),(6,⟨[],true,.int .i64 (l.length:Int)⟩),(7,⟨[],true,.int .i64 (p.1:Int)⟩),(8,⟨[],true,.int .i64 (p.2:Int)⟩)],[],0⟩,fun p=>p.2-p.1,⟨(0,l.length),⟨⟨by omega,by omega⟩,fun j hj=>by simp at hj,fun j hj hj'=>by simp only at hj;omega⟩,?_⟩,fun p hI=>?_⟩
 ·exact Vw []
 obtain⟨a,b⟩:=p
 obtain⟨⟨hI1,hI2⟩,hI3,hI4⟩:=hI
 simp only at hI1 hI2 hI3 hI4
 refine Wk ?_
 refine aI (fun h1=>?_) (fun h1=>?_)<;> try simp only [zC,zA,zF,zE,zG] at h1
 ·have h1:a<b:=by simpa using h1
  refine Wk ?_
  try first |refine aE (by decide) ?_ |refine aM (fun _=>by decide) ?_ |refine⟨fun _=>by decide,?_⟩
  refine Wk ?_
  have hm:IntKind.i64.wrap ((IntKind.u64.wrap (IntKind.i64.wrap ((((a,b).fst:Nat):Int)+(((a,b).snd:Nat):Int)))).fdiv (2^min (Int.toNat 1) IntKind.u64.bits))=(((a+b)/2:Nat):Int):=by
   simp only []
   rw [aY (n:=(a:Int)+b) (by omega) (by omega),show IntKind.u64.wrap ((a:Int)+b)=(a:Int)+b from by
    have :=Int.emod_eq_of_lt (a:=(a:Int)+b) (b:=18446744073709551616) (by omega) (by omega)
    simpa [IntKind.wrap,IntKind.bits,IntKind.signed] using this]
   have e:((a:Int)+b).fdiv (2^min (Int.toNat 1) IntKind.u64.bits)=((a:Int)+b)/2:=by
    rw [Int.fdiv_eq_ediv_of_nonneg _ (by decide)];rfl
   rw [e,aY (by omega) (by omega)]
   omega
  rw [hm]
  have hmid:a≤(a+b)/2∧(a+b)/2<b:=by omega
  generalize(a+b)/2=m at hm hmid
  first |refine aE (⟨rfl,by omega,by rw [aB];omega⟩) ?_ |refine aM (fun _=>⟨rfl,by omega,by rw [aB];omega⟩) ?_ |refine⟨fun _=>⟨rfl,by omega,by rw [aB];omega⟩,?_⟩
  rw [zD,dJ l m (by omega),fV]
  refine dF (bG6 (l.getD m 0) x) ?_
  refine aI (fun h2=>?_) (fun h2=>?_)<;> try simp only [zC,zA,zF,zE,zG] at h2
  ·have h2:l.getD m 0<x:=by simpa using h2
   refine Wk ?_
   rw [aY (n:=(m:Int)+1) (by omega) (by omega),show((m:Int)+1)=((m+1:Nat):Int) by omega]
   refine⟨(m+1,b),⟨⟨by show m+1≤b;omega,hI2⟩,fun j hj=>?_,hI4⟩,?_,by show b- (m+1)<b-a;omega⟩
   ·have hj:j<m+1:=hj
    by_cases e:j=m
    ·rw [e];exact h2
    ·have :=hmon j m (by omega) (by omega);omega
   exact Vw []
  have h2:x≤l.getD m 0:=by simpa using h2
  refine Wk ?_
  refine⟨(a,m),⟨⟨hmid.1,by show m≤l.length;omega⟩,hI3,fun j hj hj'=>?_⟩,?_,by show m-a<b-a;omega⟩
  ·have hj:m≤j:=hj
   by_cases e:j=m
   ·rw [e];exact h2
   ·have :=hmon m j (by omega) hj';omega
  exact Vw []
 have h1:a=b:=by simp at h1;omega
 subst h1
 have hat:=aKL l x a hI2 hI3 hI4
 have hk:aCR l x=(bif decide ((a:Int)< (l.length:Int)) then l.getD a 0==x else false):=by
  rw [aCR,hat];congr 1;simp
 refine Wk ?_
 by_cases hlt:a<l.length
 ·have hd:decide ((((a,a).fst:Nat):Int)< (l.length:Int))=true:=by simpa using hlt
  rw [hd]
  first |refine aE (⟨rfl,by omega,by rw [aB];show(a:Int)<_;omega⟩) ?_ |refine aM (fun _=>⟨rfl,by omega,by rw [aB];show(a:Int)<_;omega⟩) ?_ |refine⟨fun _=>⟨rfl,by omega,by rw [aB];show(a:Int)<_;omega⟩,?_⟩
  rw [zD,dJ l a hlt,fV]
  refine Wk2 (aNW (l.getD a 0)) (aNW x) ?_
  first |refine aE (⟨rfl,by show(0:Int)≤(a:Int);omega,by rw [aB];show(a:Int)<_;omega⟩) ?_ |refine aM (fun _=>⟨rfl,by show(0:Int)≤(a:Int);omega,by rw [aB];show(a:Int)<_;omega⟩) ?_ |refine⟨fun _=>⟨rfl,by show(0:Int)≤(a:Int);omega,by rw [aB];show(a:Int)<_;omega⟩,?_⟩
  rw [zD,dJ l a hlt,fV]
  refine Wk2 (aNW (l.getD a 0)) (aNW x) ?_
  rw [hat,hk,show decide ((a:Int)< (l.length:Int))=true by simpa using hlt]
  refine⟨[],trivial,rfl,trivial,rfl,?_⟩
  try subst hk
  repeat' (first |exact trivial |rfl |exact .inl rfl |exact .inr rfl |exact id |exact(fun h=>Bool.noConfusion h)|refine And.intro ?_ ?_)
  cases l.getD a 0==x <;> rfl
 ·have hd:decide ((((a,a).fst:Nat):Int)< (l.length:Int))=false:=by simpa using hlt
  have hr:(aJ l).getD a []=[]:=by rw [zI,List.getElem?_eq_none (by rw [aB];omega)];rfl
  rw [hd]
  first |refine⟨fun h=>(by cases h),?_⟩|skip
  rw [zD,hr]
  refine Wk ?_
  rw [zD,hr]
  refine Wk ?_
  refine .inr ⟨fun h=>(by cases h),fun _=>?_⟩
  refine Wk ?_
  refine .inr ⟨fun h=>(by cases h),fun _=>?_⟩
  refine Wk ?_
  rw [hat,hk,show decide ((a:Int)< (l.length:Int))=false by simpa using hlt]
  try subst hk
  exact Lf
end Go.Proofs.YtmhapcbjjpadnaaGreat
set_option maxRecDepth 40000
namespace Go.Proofs.YtmhapcbjjpadnaaGreat
open Go Go.Sk Go.RowKit
def aIF(z:Zn)(f:Int):Zn:=⟨z.first,z.size,z.min,z.low,z.high,jY z.free (pP z.free f) f,false⟩
def eB(base l:List Zn)(f:Int):List Zn×Int:=
 bif !bH l then(base,1) else bif decide (dW (inG f) l<0) then(base,2) else
 bif aCR (l.getD (dW (inG f) l).toNat fL).free f then(base,5) else
 (base.set (dW (inG f) l).toNat (aIF (l.getD (dW (inG f) l).toNat fL) f),0)
theorem aEE(lo hi:Int)(l:List Int)(h:vG lo hi l l.length=true):l.Pairwise (·< ·):=by
 have step:∀i,i+1<l.length→l.getD i 0<l.getD (i+1) 0:=fun i hi=>by
  have :=rI lo _ l l.length (i+1) hi h
  simp only [mC,zQ,Bool.and_eq_false_iff,decide_eq_false_iff_not] at this
  have h2:=this.2
  rw [Nat.add_sub_cancel] at h2
  omega
 have mon:∀d i,i+d+1<l.length→l.getD i 0<l.getD (i+d+1) 0:=fun d=>by
  induction d with
  |zero=>exact fun i hi=>step i hi
  |succ d ih=>
   intro i hi
   have h1:=ih i (by omega)
   have h2:=step (i+d+1) (by omega)
   rw [show i+(d+1)+1=i+d+1+1 by omega]
   omega
 refine List.pairwise_iff_getElem.2 fun i j hi hj hij=>?_
 rw [fV,fV]
 have :=mon (j-i-1) i (by omega)
 rwa [show i+(j-i-1)+1=j by omega] at this
theorem aFT:∀(l:List Int) (x:Int),pP l x≤l.length
 | [],_=>Nat.le_refl 0
 |y::r,x=>by
  have :=aFT r x
  simp only [pP,zH] at this⊢
  split <;> simp <;> omega
set_option maxRecDepth 20000 in
set_option maxHeartbeats 1000000 in
theorem bA3(l:List Zn)(t:Bool)(f:Int)(hl:kG l):aQ Tryz.prog 247 [] [.lst 6 t (aW l),.int .i64 f] (.tup [.lst 6 false (aW (eB (l.map fH) l f).1),.int .i64 (eB (l.map fH) l f).2]) []:=by
 have hlen:=hl.len
 refine aF (ob0:= []) [] Tryz.func247 rfl rfl rfl rfl ?_
 generalize hk:eB (l.map fH) l f=q
 refine Wk ?_
 refine .inr ⟨fun _=>⟨[],_,_,_,aZW l t hl,trivial,rfl,rfl,rfl,?_⟩,(by intro h;cases h)⟩
 refine dF (aTF l t hl) ?_
 refine aI (fun h1=>?_) (fun h1=>?_)<;> try simp only [zC,zA,zF,zE,zG] at h1
 ·have h1:(!bH l)=true:=by rw [h1];rfl
  simp only [eB,h1,cond_true] at hk
  subst hk
  refine Wk ?_
  refine⟨[],trivial,rfl,trivial,rfl,?_⟩
  try subst hk
  repeat' (first |exact trivial |rfl |exact .inl rfl |exact .inr rfl |exact id |exact(fun h=>Bool.noConfusion h)|refine And.intro ?_ ?_)
  ·show 0+l.length≤_
   rw [aG];simp
  ·refine eF ?_
   rw [aG];simp
 have h1':bH l=true:=by simpa using h1
 have h1:(!bH l)=false:=by rw [h1'];rfl
 have hg:=aC7 h1'
 simp only [eB,h1,cond_false] at hk
 refine Wk ?_
 refine .inl ⟨_,fun _=>⟨?_,bFY l t 318 [.rp 1 [.int .i64 f] 0] (inG f) call58 rfl (fun x _=>bG3 x f) (by omega)⟩,.inr rfl,?_⟩
 ·intro v hv
  have hv:v∈ [V.lst 6 t (aW l),V.fn 318 [V.ptr 0 0 0]]:=hv
  rcases List.mem_cons.1 hv with rfl |hv
  ·exact trivial
  ·obtain rfl:=List.mem_singleton.1 hv
   intro c hc
   obtain rfl:=List.mem_singleton.1 hc
   exact⟨rfl,rfl⟩
 refine Wk ?_
 refine aI (fun h2=>?_) (fun h2=>?_)<;> try simp only [zC,zA,zF,zE,zG] at h2
 ·simp only [h2,cond_true] at hk
  subst hk
  refine Wk ?_
  refine⟨[],trivial,rfl,trivial,rfl,?_⟩
  try subst hk
  repeat' (first |exact trivial |rfl |exact .inl rfl |exact .inr rfl |exact id |exact(fun h=>Bool.noConfusion h)|refine And.intro ?_ ?_)
  ·show 0+l.length≤_
   rw [aG];simp
  ·refine eF ?_
   rw [aG];simp
 simp only [h2,cond_false] at hk
 obtain⟨n,hn,hin,-,-⟩:=nM (inG f) l (by simpa using h2)
 rw [hin] at hk⊢
 rw [zD] at hk
 have hgn:=hg l[n] (zX hn)
 have hfn:=hl.free l[n] (zX hn)
 have hpw:=aEE _ _ _ hgn.asc
 simp only [aCN l n hn] at hk
 refine Wk ?_
 first |refine aE (⟨by omega,by omega⟩) ?_ |refine aM (fun _=>⟨by omega,by omega⟩) ?_ |refine⟨fun _=>⟨by omega,by omega⟩,?_⟩
 refine Wk ?_
 first |refine aE (by rw [aG];simp;omega) ?_ |refine aM (fun _=>by rw [aG];simp;omega) ?_ |refine⟨fun _=>by rw [aG];simp;omega,?_⟩
 refine Wk ?_
 rw [zO,zD,uB l n hn]
 refine dF (bA7 l[n].free true f hfn hpw) ?_
 refine aI (fun h4=>?_) (fun h4=>?_)<;> try simp only [zC,zA,zF,zE,zG] at h4
 ·simp only [h4,cond_true] at hk
  subst hk
  refine Wk ?_
  refine⟨[],trivial,rfl,trivial,rfl,?_⟩
  try subst hk
  repeat' (first |exact trivial |rfl |exact .inl rfl |exact .inr rfl |exact id |exact(fun h=>Bool.noConfusion h)|refine And.intro ?_ ?_)
  ·show 0+l.length≤_
   rw [aG];simp
  ·refine eF ?_
   rw [aG];simp
 simp only [h4,cond_false] at hk
 refine Wk ?_
 first |refine aE (⟨by omega,by omega⟩) ?_ |refine aM (fun _=>⟨by omega,by omega⟩) ?_ |refine⟨fun _=>⟨by omega,by omega⟩,?_⟩
 refine Wk ?_
 first |refine aE (by rw [aG];simp;omega) ?_ |refine aM (fun _=>by rw [aG];simp;omega) ?_ |refine⟨fun _=>by rw [aG];simp;omega,?_⟩
 refine Wk ?_
 rw [zO,zD,uB l n hn]
 refine Wk ?_
 refine .inr ⟨fun _=>⟨[11408],_,_,_,bA8 l[n].free (pP l[n].free f) f (aFT _ _) (by omega),⟨rfl,trivial⟩,rfl,rfl,rfl,?_⟩,(by intro h;cases h)⟩
 refine Wk ?_
 first |refine aE (⟨by omega,by omega⟩) ?_ |refine aM (fun _=>⟨by omega,by omega⟩) ?_ |refine⟨fun _=>⟨by omega,by omega⟩,?_⟩
 refine Wk ?_
 first |refine aE (by rw [aG];simp;omega) ?_ |refine⟨by rw [aG];simp;omega,?_⟩
 refine Wk ?_
 subst hk
 refine⟨[],trivial,rfl,trivial,rfl,?_⟩
 try subst hk
 repeat' (first |exact trivial |rfl |exact .inl rfl |exact .inr rfl |exact id |exact(fun h=>Bool.noConfusion h)|refine And.intro ?_ ?_)
 ·show 0+l.length≤_
  rw [List.length_set,aG];simp
 ·rw [zO,zD]
  refine(congrArg (fun r=>List.take l.length (List.drop 0 r)) (aBS (l.map fH) n (by simp;omega) (jY l[n].free (pP l[n].free f) f) false)).trans ?_
  refine(eF (by rw [aG];simp)).trans ?_
  simp only [List.getElem_map]
  rfl
end Go.Proofs.YtmhapcbjjpadnaaGreat
