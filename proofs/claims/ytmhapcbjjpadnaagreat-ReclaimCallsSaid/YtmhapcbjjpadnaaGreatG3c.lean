/- Caches. -/
import Derived.Test.YtmhapcbjjpadnaaGreatG2c
import Derived.Shelf.Spec.SlicesInsertGrow
set_option linter.all false
set_option maxHeartbeats 1000000
set_option maxRecDepth 40000
open Array renaming getElem?_append_left→zK,getElem?_push→zS
open Bool renaming cond_false_right→zA,cond_true_left→zC,not_eq_false'→zD,not_eq_true'→zE,not_not→zG,or_eq_false_iff→zR
open Int renaming toNat_natCast→zF
open List renaming length_append→zH,takeWhile_cons→zI,getD_eq_getElem?_getD→zJ,drop_eq_getElem_cons→zL,getElem?_cons_succ→zM,getElem?_cons_zero→zN,map_append→zQ,getD_cons_zero→zT,mem_map→zU,getElem?_map→zV,length_cons→zW,getElem_mem→zX
open Nat renaming zero_add→zP
open Option renaming map_eq_some_iff→zO
namespace Go.Proofs.YtmhapcbjjpadnaaGreat
open Go Go.Sk Go.RowKit
def oO(a b:Int):List Int:=(List.range (b-a).toNat).map λ(i:Nat)=>a+i
theorem aIF(a b:Int):(oO a b).length=(b-a).toNat:=by simp [oO]
theorem aPL(a b:Int)(h:b<=a):oO a b=[]:=by
 have :(b-a).toNat=0:=by omega
 simp [oO,this]
theorem aKD(a b:Int)(h:a<=b):oO a (b+1)=oO a b++ [b]:=by
 have :(b+1-a).toNat=(b-a).toNat+1:=by omega
 rw [oO,oO,this,List.range_succ,zQ]
 congr 1
 simp only [List.map_cons,List.map_nil,List.cons.injEq,and_true];omega
theorem aOK(a b x:Int):x∈oO a b↔a<=x/\x<b:=by
 simp only [oO,zU,List.mem_range];constructor
 ·rintro ⟨i,h,rfl⟩;omega
 ·rintro ⟨e,h2⟩;exact⟨(x-a).toNat,by omega,by omega⟩
theorem fG(l:List Int)(x:Int):aB l++ [[.int .i64 x]]=aB (l++ [x]):=by rw [aB,aB,zQ];rfl
theorem aIB(l:List Zn)(z:Zn):aK l++ [z.c]=aK (l++ [z]):=by rw [aK,aK,zQ];rfl
def tV(n k:Int):Int:=IntKind.i64.wrap (n.tdiv k)
def mkZ(f n:Int):Zn:=⟨f,n,tV n 8,tV n 4,tV n 2,oO f (f+n),false⟩
def aF4(f n:Int):Bool:=(decide (n<1)||decide (64<n))||decide (65<IntKind.i64.wrap (f+n))
def newR(f:Int):List Int->Option (List Zn)
 | []=>some []
 |n::r=>bif aF4 f n then none else(newR (f+n) r).map (mkZ f n:: ·)
def newF(s:List Int):List Zn×Int:=bif (s.length:Int)==0 then([],1) else match newR 1 s with
 |none=>([],2)
 |some l=>(l,0)
structure aG7(s:List Int)(i:Nat)(f:Int)(acc:List Zn):Prop where
 le:i<=s.length
 len:acc.length<=i
 pos:1<=f/\f<=65
 res:newR 1 s=(newR f (s.drop i)).map (acc++ ·)
theorem vF {f n:Int} (e:1<=f/\f<=65)(h:aF4 f n=false):1<=n/\n<=64/\f+n<=65/\IntKind.i64.wrap (f+n)=f+n:=by simp only [aF4,zR,zdn] at h;have :IntKind.i64.wrap (f+n)=f+n:=aP (by omega) (by omega);omega
theorem aG7.bad {s:List Int} {i:Nat} {f:Int} {e:List Zn} (h:aG7 s i f e)(hi:i<s.length)(j:aF4 f s[i]=true):newR 1 s=none:=by rw [h.res,zL hi,newR,j];rfl
theorem aG7.next {s:List Int} {i:Nat} {f:Int} {e:List Zn} (h:aG7 s i f e)(hi:i<s.length)(j:aF4 f s[i]=false):aG7 s (i+1) (f+s[i]) (e++ [mkZ f s[i]]):=by
 obtain⟨m,z,B,C⟩:=vF h.pos j;have :=h.pos;refine⟨by omega,by have :=h.len;simp;omega,by omega,?_⟩;rw [h.res,zL hi,newR,j,zcf,Option.map_map]
 congr 1
 funext r
 simp
theorem aG7.done {s:List Int} {i:Nat} {f:Int} {e:List Zn} (h:aG7 s i f e)(hi:i=s.length):newR 1 s=some e:=by rw [h.res,hi,List.drop_length,newR];simp
theorem bOO(s:List Int)(t:Bool)(hs:s.length<=100000):aM Tryz.prog 130 [] [.lst 1 t (aB s)] (.tup [.lst 6 false (aK (newF s).1),.int .i64 (newF s).2]) []:=by
 refine eT (ob0:= []) [.p 40] Tryz.func130 rfl rfl rfl rfl ?_;generalize hk:newF s=q;refine Wk ?_;rw [aA];refine aC (λh1=>?_) (λh1=>?_)<;> try simp only [zC,zA,zE,zD,zG] at h1
 ·simp only [newF,h1,zct] at hk;subst hk;refine Wk ?_
  try subst hk
  exact Lf
 simp only [newF,h1,zcf] at hk;refine Wk ?_;rw [aA];refine⟨Nat×Int×List Zn,λp=>aG7 s p.1 p.2.1 p.2.2,λp=>⟨[(4,⟨[],true,.sl 0 0 p.2.2.length⟩),(5,⟨[],true,.int .i64 p.2.1⟩),(13,⟨[],true,.lst 1 t (aB s)⟩),(14,⟨[],true,.int .i64 (s.length:Int)⟩),(15,⟨[],true,.int .i64 (p.1:Int)⟩)],[(0,.row 6 (aK p.2.2))],1⟩,λp=>s.length-p.1,⟨(0,1,[]),⟨by simp,by simp,by decide,by simp⟩,?_⟩,λp hI=>?_⟩
 ·exact Vw [none]
 obtain⟨i,f,acc⟩:=p;have hI:aG7 s i f acc:=hI;have hle:=hI.le;have hpos:=hI.pos;have hal:=hI.len;refine Wk ?_;refine aC (λh3=>?_) (λh3=>?_)<;> try simp only [zC,zA,zE,zD,zG] at h3
 ·have h3:i<s.length:=by simp at h3;omega
  refine Wk ?_;refine aG (⟨rfl,by omega,by rw [aA];omega⟩) ?_;rw [zF,bS s i h3];have hbad:=hI.bad h3;have hnext:=hI.next h3;generalize s[i]=n at hbad hnext;refine Wk ?_;refine aC (λh4=>?_) (λh4=>?_)<;> try simp only [zC,zA,zE,zD,zG] at h4
  ·have h4:aF4 f n=true:=h4;rw [hbad h4] at hk;subst hk;refine Wk ?_
   try subst hk
   exact Lf
  have h4:aF4 f n=false:=h4;obtain⟨a1,a2,a3,a4⟩:=vF hpos h4;have hnext:=hnext h4;refine Wk ?_;refine Wk ?_;refine Wk ?_;refine Wk ?_
  refine⟨Unit,λ_=>True,λ_=>⟨[(4,⟨[],true,.sl 0 0 acc.length⟩),(5,⟨[],true,.int .i64 f⟩),(7,⟨[],true,.int .i64 n⟩),(8,⟨[],true,.ptr 1 0 0⟩),(13,⟨[],true,.lst 1 t (aB s)⟩),(14,⟨[],true,.int .i64 (s.length:Int)⟩),(15,⟨[],true,.int .i64 (i:Int)⟩)],
   [(0,.row 6 (aK acc)),(1,.box (mkZ f n).c)],2⟩,?_,λ_ _=>?_⟩
  ·refine Wk ?_
   refine⟨Nat×List Int,λy=>(y.1:Int)<=n/\y.2=oO f (f+y.1),λy=>⟨[(4,⟨[],true,.sl 0 0 acc.length⟩),(5,⟨[],true,.int .i64 f⟩),(7,⟨[],true,.int .i64 n⟩),(8,⟨[],true,.ptr 1 0 0⟩),(9,⟨[],true,.int .i64 (f+(y.1:Int))⟩),(13,⟨[],true,.lst 1 t (aB s)⟩),(14,⟨[],true,.int .i64 (s.length:Int)⟩),(15,⟨[],true,.int .i64 (i:Int)⟩)],
    [(0,.row 6 (aK acc)),(1,.box [.int .i64 f,.int .i64 n,.int .i64 (tV n 8),.int .i64 (tV n 4),.int .i64 (tV n 2),.sl 2 0 y.2.length]),(2,.row 1 (aB y.2))],3⟩,λy=>100-y.1,⟨(0,[]),⟨by simp;omega,by rw [aPL _ _ (by simp)]⟩,?_⟩,λy hy=>?_⟩
   ·refine bU [some 0,some 1,none] rfl rfl ?_ rfl ?_ rfl ?_
    repeat' (first |exact trivial |rfl |exact .inl rfl |exact .inr rfl |exact id |exact zbc |apply And.intro)
    exact(Int.add_zero _).symm
   obtain⟨k,out⟩:=y;obtain⟨hy1,hy2⟩:=hy;simp only at hy1 hy2;have hlen:out.length=k:=by rw [hy2,aIF];omega
   have hw1:IntKind.i64.wrap (f+(k:Int)+1)=f+((k+1:Nat):Int):=by rw [aP (by omega) (by omega)];omega
   refine Wk ?_;rw [a4];refine aC (λh5=>?_) (λh5=>?_)<;> try simp only [zC,zA,zE,zD,zG] at h5
   ·have h5:(k:Int)<n:=by simp at h5;omega
    refine Wk ?_;refine aG (aA out).symm ?_;refine Wk ?_;refine cA ?_ ?_ ?_
    ·show(((aB out).length+1:Nat):Int)<=_;rw [aA];omega
    ·show((aB out).length+1)*8<=_;rw [aA];omega
    refine Wk ?_;rw [hw1];refine⟨(k+1,oO f (f+((k+1:Nat):Int))),⟨by show((k+1:Nat):Int)<=_;omega,rfl⟩,?_,by show 100- (k+1)<100-k;omega⟩;have hs1:oO f (f+((k+1:Nat):Int))=out++ [f+(k:Int)]:=by rw [show f+((k+1:Nat):Int)=f+(k:Int)+1 by omega,aKD _ _ (by omega),hy2]
    rw [hs1];refine bU [some 0,some 1,some 4] rfl rfl ?_ rfl ?_ rfl ?_
    repeat' (first |exact trivial |rfl |exact .inl rfl |exact .inr rfl |exact id |exact zbc |apply And.intro)
    ·show(aB out).length+1=_;rw [aA,zH];rfl
    ·exact fG out _
   have h5:(k:Int)=n:=by simp at h5;omega
   refine Wk ?_;refine⟨(),trivial,?_⟩;refine bU [some ?k143_0,some ?k143_1] rfl rfl ?h3_143 ?h4_143 ?h5_143 ?h6_143 ?h7_143
   case' h7_143=>repeat' (first |exact trivial |rfl |exact .inl rfl |exact .inr rfl |exact id |exact zbc |apply And.intro)
   case' h4_143=>rfl
   case' h6_143=>rfl
   case' h3_143=>repeat' (first |exact trivial |rfl |exact .inl rfl |exact .inr rfl |exact id |exact zbc |apply And.intro)
   case' h5_143=>repeat' (first |exact trivial |rfl |exact .inl rfl |exact .inr rfl |exact id |exact zbc |apply And.intro)
   ·show 0+out.length<=(aB out).length;rw [aA];omega
   ·refine(dB (aA _)).trans ?_;show aB out=aB (oO f (f+n));rw [hy2,h5]
  ·refine Wk ?_;refine aG ((aF acc).symm) ?_
   conv=>whnf
   refine cA ?_ ?_ ?_
   ·show(((aK acc).length+1:Nat):Int)<=_;rw [aF];omega
   ·show((aK acc).length+1)*64<=_;rw [aF];omega
   refine Wk ?_;rw [a4,aP (n:=(i:Int)+1) (by omega) (by omega),show((i:Int)+1)=((i+1:Nat):Int) by omega];refine⟨(i+1,f+n,acc++ [mkZ f n]),hnext,?_,by show s.length- (i+1)<s.length-i;omega⟩;refine bU [some ?k165_0] rfl rfl ?h3_165 ?h4_165 ?h5_165 ?h6_165 ?h7_165
   case' h7_165=>repeat' (first |exact trivial |rfl |exact .inl rfl |exact .inr rfl |exact id |exact zbc |apply And.intro)
   case' h4_165=>rfl
   case' h6_165=>rfl
   case' h3_165=>repeat' (first |exact trivial |rfl |exact .inl rfl |exact .inr rfl |exact id |exact zbc |apply And.intro)
   case' h5_165=>repeat' (first |exact trivial |rfl |exact .inl rfl |exact .inr rfl |exact id |exact zbc |apply And.intro)
   ·exact aIB acc (mkZ f n)
   ·show(aK acc).length+1=_;rw [aF,zH];rfl
 have h3:i=s.length:=by simp at h3;omega
 rw [hI.done h3] at hk;subst hk;refine Wk ?_;refine⟨[],trivial,rfl,trivial,rfl,?_⟩
 try subst hk
 repeat' (first |exact trivial |rfl |exact .inl rfl |exact .inr rfl |exact id |exact zbc |apply And.intro)
 ·show 0+acc.length<=(aK acc).length;rw [aF];omega
 ·exact dB (aF _)
theorem bOF(s:List Int)(t:Bool)(hs:s.length<=100000):aM Tryz.prog 113 [] [.lst 1 t (aB s)] (.tup [.lst 6 false (aK (newF s).1),.int .i64 (newF s).2]) []:=by
 refine eT (ob0:= []) [.p 44] Tryz.func113 rfl rfl rfl rfl ?_;generalize hk:newF s=q;refine Wk ?_;rw [aA];refine aC (λh1=>?_) (λh1=>?_)<;> try simp only [zC,zA,zE,zD,zG] at h1
 ·simp only [newF,h1,zct] at hk;subst hk;refine Wk ?_
  try subst hk
  exact Lf
 simp only [newF,h1,zcf] at hk;refine Wk ?_;refine⟨Nat×Int×List Zn,λp=>aG7 s p.1 p.2.1 p.2.2,λp=>⟨[(4,⟨[],true,.sl 0 0 p.2.2.length⟩),(5,⟨[],true,.int .i64 p.2.1⟩),(0,⟨[],true,.lst 1 t (aB s)⟩),(6,⟨[],true,.int .i64 (p.1:Int)⟩)],[(0,.row 6 (aK p.2.2))],1⟩,λp=>s.length-p.1,⟨(0,1,[]),⟨by simp,by simp,by decide,by simp⟩,?_⟩,λp hI=>?_⟩
 ·exact Vw [none]
 obtain⟨i,f,acc⟩:=p;have hI:aG7 s i f acc:=hI;have hle:=hI.le;have hpos:=hI.pos;have hal:=hI.len;refine Wk ?_;rw [aA];refine aC (λh3=>?_) (λh3=>?_)<;> try simp only [zC,zA,zE,zD,zG] at h3
 ·have h3:i<s.length:=by simp at h3;omega
  refine Wk ?_;refine aG (⟨rfl,by omega,by rw [aA];omega⟩) ?_;rw [zF,bS s i h3];have hbad:=hI.bad h3;have hnext:=hI.next h3;generalize s[i]=n at hbad hnext;refine Wk ?_;refine aC (λh4=>?_) (λh4=>?_)<;> try simp only [zC,zA,zE,zD,zG] at h4
  ·have h4:aF4 f n=true:=h4;rw [hbad h4] at hk;subst hk;refine Wk ?_
   try subst hk
   exact Lf
  have h4:aF4 f n=false:=h4;obtain⟨a1,a2,a3,a4⟩:=vF hpos h4;have hnext:=hnext h4;refine Wk ?_;refine Wk ?_;refine Wk ?_;refine Wk ?_
  refine⟨Unit,λ_=>True,λ_=>⟨[(4,⟨[],true,.sl 0 0 acc.length⟩),(5,⟨[],true,.int .i64 f⟩),(7,⟨[],true,.int .i64 n⟩),(8,⟨[],true,.ptr 1 0 0⟩),(0,⟨[],true,.lst 1 t (aB s)⟩),(6,⟨[],true,.int .i64 (i:Int)⟩)],
   [(0,.row 6 (aK acc)),(1,.box (mkZ f n).c)],2⟩,?_,λ_ _=>?_⟩
  ·refine Wk ?_
   refine⟨Nat×List Int,λy=>(y.1:Int)<=n/\y.2=oO f (f+y.1),λy=>⟨[(4,⟨[],true,.sl 0 0 acc.length⟩),(5,⟨[],true,.int .i64 f⟩),(7,⟨[],true,.int .i64 n⟩),(8,⟨[],true,.ptr 1 0 0⟩),(9,⟨[],true,.int .i64 (f+(y.1:Int))⟩),(0,⟨[],true,.lst 1 t (aB s)⟩),(6,⟨[],true,.int .i64 (i:Int)⟩)],
    [(0,.row 6 (aK acc)),(1,.box [.int .i64 f,.int .i64 n,.int .i64 (tV n 8),.int .i64 (tV n 4),.int .i64 (tV n 2),.sl 2 0 y.2.length]),(2,.row 1 (aB y.2))],3⟩,λy=>100-y.1,⟨(0,[]),⟨by simp;omega,by rw [aPL _ _ (by simp)]⟩,?_⟩,λy hy=>?_⟩
   ·refine bU [some 0,some 1,none] rfl rfl ?_ rfl ?_ rfl ?_
    repeat' (first |exact trivial |rfl |exact .inl rfl |exact .inr rfl |exact id |exact zbc |apply And.intro)
    exact(Int.add_zero _).symm
   obtain⟨k,out⟩:=y;obtain⟨hy1,hy2⟩:=hy;simp only at hy1 hy2;have hlen:out.length=k:=by rw [hy2,aIF];omega
   have hw1:IntKind.i64.wrap (f+(k:Int)+1)=f+((k+1:Nat):Int):=by rw [aP (by omega) (by omega)];omega
   refine Wk ?_;rw [a4];refine aC (λh5=>?_) (λh5=>?_)<;> try simp only [zC,zA,zE,zD,zG] at h5
   ·have h5:(k:Int)<n:=by simp at h5;omega
    refine Wk ?_;refine aG ((aA out).symm) ?_
    conv=>whnf
    refine cA ?_ ?_ ?_
    ·show(((aB out).length+1:Nat):Int)<=_;rw [aA];omega
    ·show((aB out).length+1)*8<=_;rw [aA];omega
    refine Wk ?_;rw [hw1];refine⟨(k+1,oO f (f+((k+1:Nat):Int))),⟨by show((k+1:Nat):Int)<=_;omega,rfl⟩,?_,by show 100- (k+1)<100-k;omega⟩;have hs1:oO f (f+((k+1:Nat):Int))=out++ [f+(k:Int)]:=by rw [show f+((k+1:Nat):Int)=f+(k:Int)+1 by omega,aKD _ _ (by omega),hy2]
    rw [hs1];refine bU [some 0,some 1,some 4] rfl rfl ?_ rfl ?_ rfl ?_
    repeat' (first |exact trivial |rfl |exact .inl rfl |exact .inr rfl |exact id |exact zbc |apply And.intro)
    ·show(aB out).length+1=_;rw [aA,zH];rfl
    ·exact fG out _
   have h5:(k:Int)=n:=by simp at h5;omega
   refine Wk ?_;refine⟨(),trivial,?_⟩;refine bU [some ?k94_0,some ?k94_1] rfl rfl ?h3_94 ?h4_94 ?h5_94 ?h6_94 ?h7_94
   case' h7_94=>repeat' (first |exact trivial |rfl |exact .inl rfl |exact .inr rfl |exact id |exact zbc |apply And.intro)
   case' h4_94=>rfl
   case' h6_94=>rfl
   case' h3_94=>repeat' (first |exact trivial |rfl |exact .inl rfl |exact .inr rfl |exact id |exact zbc |apply And.intro)
   case' h5_94=>repeat' (first |exact trivial |rfl |exact .inl rfl |exact .inr rfl |exact id |exact zbc |apply And.intro)
   ·show 0+out.length<=(aB out).length;rw [aA];omega
   ·refine(dB (aA _)).trans ?_;show aB out=aB (oO f (f+n));rw [hy2,h5]
  ·refine Wk ?_;refine aG ((aF acc).symm) ?_
   conv=>whnf
   refine cA ?_ ?_ ?_
   ·show(((aK acc).length+1:Nat):Int)<=_;rw [aF];omega
   ·show((aK acc).length+1)*64<=_;rw [aF];omega
   refine Wk ?_;rw [a4,aP (n:=(i:Int)+1) (by omega) (by omega),show((i:Int)+1)=((i+1:Nat):Int) by omega];refine⟨(i+1,f+n,acc++ [mkZ f n]),hnext,?_,by show s.length- (i+1)<s.length-i;omega⟩;refine bU [some ?k116_0] rfl rfl ?h3_116 ?h4_116 ?h5_116 ?h6_116 ?h7_116
   case' h7_116=>repeat' (first |exact trivial |rfl |exact .inl rfl |exact .inr rfl |exact id |exact zbc |apply And.intro)
   case' h4_116=>rfl
   case' h6_116=>rfl
   case' h3_116=>repeat' (first |exact trivial |rfl |exact .inl rfl |exact .inr rfl |exact id |exact zbc |apply And.intro)
   case' h5_116=>repeat' (first |exact trivial |rfl |exact .inl rfl |exact .inr rfl |exact id |exact zbc |apply And.intro)
   ·exact aIB acc (mkZ f n)
   ·show(aK acc).length+1=_;rw [aF,zH];rfl
 have h3:i=s.length:=by simp at h3;omega
 rw [hI.done h3] at hk;subst hk;refine Wk ?_;refine⟨[],trivial,rfl,trivial,rfl,?_⟩
 try subst hk
 repeat' (first |exact trivial |rfl |exact .inl rfl |exact .inr rfl |exact id |exact zbc |apply And.intro)
 ·show 0+acc.length<=(aK acc).length;rw [aF];omega
 ·exact dB (aF _)
open Go.Shelf
def aPF:Ren:=⟨λ|21=>287 |27=>335 |28=>336 |35=>357 |39=>363 |n=>n,λn=>n,λn=>n⟩
theorem aLL:Lays2.n21 Tryz.prog aPF where
 mixed:=by kernel_rfl
 f21:=Tryz.func287.trans (congrArg some (by kernel_rfl))
 f27:=Tryz.func335.trans (congrArg some (by kernel_rfl))
 f28:=Tryz.func336.trans (congrArg some (by kernel_rfl))
 f35:=Tryz.func357.trans (congrArg some (by kernel_rfl))
 f39:=Tryz.func363.trans (congrArg some (by kernel_rfl))
 t0:=Tryz.underlying0
 a0:=Tryz.isAgg0
 z0:=Tryz.sizeOf0
 v0:=Tryz.zeroValue0
 t3:=Tryz.underlying3
 a3:=Tryz.isAgg3
 z3:=Tryz.sizeOf3
 v3:=Tryz.zeroValue3
 t4:=Tryz.underlying4
 a4:=Tryz.isAgg4
 z4:=Tryz.sizeOf4
 v4:=Tryz.zeroValue4
 t22:=Tryz.underlying22
 a22:=Tryz.isAgg22
 z22:=Tryz.sizeOf22
 v22:=Tryz.zeroValue22
 i3:=by kernel_rfl
def wrote:Array Value->Nat->List Value->Array Value
 |arr,_,[]=>arr
 |arr,o,v::r=>wrote (arr.setIfInBounds o v) (o+1) r
theorem oR:∀(vs:List Value) (o:Nat) (arr:Array Value),(wrote arr o vs).size=arr.size
 | [],_,_=>rfl
 |v::r,o,arr=>by rw [wrote,oR r];simp
theorem rK:∀(vs:List Value) (o:Nat) (arr:Array Value) (j:Nat),o+vs.length<=arr.size->(wrote arr o vs)[j]? =if o<=j/\j<o+vs.length then vs[j-o]? else arr[j]?
 | [],o,arr,j,_=>by simp [wrote];intro e h2;omega
 |v::r,o,arr,j,h=>by
  simp only [zW] at h;rw [wrote,rK r (o+1) _ j (by simp;omega)];simp only [zW]
  by_cases e:j=o
  ·subst e;rw [if_neg (by omega),if_pos (by omega),Array.getElem?_setIfInBounds_self_of_lt (by omega)];simp
  ·by_cases h2:o+1<=j/\j<o+1+r.length
   ·rw [if_pos h2,if_pos (by omega),show j-o=(j- (o+1))+1 by omega,zM]
   ·rw [if_neg h2,if_neg (by omega),Array.getElem?_setIfInBounds_ne (by omega)]
theorem kT(b:Nat):∀(vs:List Value) (o:Nat) (w:World),(w.setCells b o vs).os=w.os/\(w.setCells b o vs).tape=w.tape/\(w.setCells b o vs).output=w.output
 | [],_,_=>⟨rfl,rfl,rfl⟩
 |v::r,o,w=>kT b r (o+1) (w.setCell ⟨b,o,none⟩ v)
theorem qB(h:Array Go.Obj)(ty:TypeId):∀(vs:List Value) (o:Nat) (w:World) (arr:Array Value),w.heap=h.push (.cells arr ty)->(w.setCells h.size o vs).heap=h.push (.cells (wrote arr o vs) ty)
 | [],_,_,_,e=>e
 |v::r,o,w,arr,e=>by
  rw [World.setCells,wrote];refine qB h ty r (o+1) _ _ ?_;unfold World.setCell;dsimp only;rw [e];apply Array.ext_getElem?;intro j;rw [Array.getElem?_modify,zS,zS]
  by_cases f:j=h.size
  ·subst f;simp
  ·rw [if_neg (by omega),if_neg f,if_neg f]
theorem bDV(n:Int):(Value.int .i64 n).oneCell'=true:=rfl
def dX(l:List Int):List Value:=l.map λx=>.int .i64 x
def iR(l:List Int)(i:Nat)(x:Int):List Int:=l.take i++x::l.drop i
theorem aZB {O:Nat->Prop} {w:World} {σ:Sg} {t:Bool} {l:List Int} {v:Value} (h:VR O w σ (.lst 1 t (aB l)) v):
 ∃a cap b o,v=.slice a l.length cap/\(l≠ []->a=some ⟨b,o,none⟩/\¬O b/\b<w.heap.size)/\l.length<=cap/\(t=true->cap=l.length)/\(∀(j:Nat) (u:Value),(dX l)[j]? =some u->w.cell? ⟨b,o+j,none⟩=some u):=by
 cases h with
 | @lst _ _ _ _ a cap b o E G H e C F K h2=>
   rw [aA] at e C;refine⟨a,cap,b,o,by rw [aA],λM=>G (by cases l with |nil=>exact absurd rfl M |cons _ _=>simp [aB]),e,C,λj u B=>?_⟩
   simp only [dX,zV,zO] at B;obtain⟨x,D,rfl⟩:=B;obtain⟨f,J⟩:=List.getElem?_eq_some_iff.1 D;have :=h2 j [.int .i64 x] 0 (.int .i64 x) (by simp [aB,D]) rfl;have z:=F j 0 (by rw [aA];exact f) (by omega)
   cases m:E j 0 with
   |int k n=>rw [m] at this;cases this;rw [m] at z;simpa using z
   |_=>rw [m] at this;cases this
theorem aXL {O:Nat->Prop} {w w':World} {σ:Sg} {arr:Array Value} {ty:TypeId×Bool} (hm:nR w w' arr ty)(E:¬O w.heap.size)(L:List Int)(cap:Nat)(e:L.length<=cap)(hg:∀(j:Nat) (u:Value),(dX L)[j]? =some u->arr[j]? =some u):
 VR O w' σ (.lst 1 false (aB L)) (.slice (some ⟨w.heap.size,0,none⟩) L.length cap):=by
 have B:w.heap.size<w'.heap.size:=by rw [hm.heap];simp
 rw [<-aA L];refine .lst w.heap.size 0 (λi _=>.int .i64 (L.getD i 0)) (λ_=>⟨rfl,E,B⟩) (λx m=>by simp only [aB,zU] at m;obtain⟨y,-,rfl⟩:=m;rfl) (by rw [aA];exact e) (λh=>by cases h) (λi c D G=>?_) (λ_ _ _ _=>rfl) λi x c y m C=>?_
 ·rw [aA] at D;obtain rfl:c=0:=by omega
  have h2:=hg i (.int .i64 (L.getD i 0)) (by simp [dX,D]);have f:=hm.new;simp only [zP,Nat.mul_one,Nat.add_zero];rw [World.cell?,f];simpa using h2
 ·simp only [aB,zV,zO] at m;obtain⟨z,F,rfl⟩:=m
  cases c with
  |zero=>simp only [zN,zse] at C;subst C;simp [zJ,F];exact .int _ _
  |succ c=>simp at C
theorem aV.newBlock {U:Nat->Prop} {σ:Sg} {S:aD} {w w':World} {n:Nat} (f:aV U σ S w n) {arr:Array Value} {ty:TypeId×Bool} (hm:nR w w' arr ty):bP σ S w n σ S w' n/\aV U σ S w' n:=by have g:bP σ S w n σ S w' n:=⟨hm.keep _,λb _ h=>h,λ_ _=>rfl,Nat.le_refl _⟩;exact⟨g,f.step g f.fresh f.inj λk p j=>.inl ⟨j,λb e c m=>hm.old (f.size ⟨k,p,e,c,j,m⟩)⟩⟩
theorem aW5(w:World)(i n cap:Nat)(x:Int)(l:List Int)(ty:TypeId)(R:l.length=n)(hi:i<n)(z:Array Value)(T:z.size=1)(J:n+1<=cap):
 ∃arr,nR w ((((w.alloc (.cells (((dX l).take i).toArray++Builtin.zeroCells z (n+1-i)++Builtin.zeroCells z (cap- (n+1))) ty)).drew.setCells w.heap.size i [.int .i64 x]).drew).setCells w.heap.size (i+1) ((dX l).drop i)) arr (ty,false)/\
  ∀(j:Nat) (u:Value),(dX (iR l i x))[j]? =some u->arr[j]? =some u:=by
 have E:(dX l).length=n:=by simp [dX,R]
 generalize H:((dX l).take i).toArray++Builtin.zeroCells z (n+1-i)++Builtin.zeroCells z (cap- (n+1))=A;have f:A.size=cap:=by rw [<-H];simp [Builtin.zeroCells,T,E];omega
 have M:(w.alloc (.cells A ty)).drew.heap=w.heap.push (.cells A ty):=rfl;have h2:=qB w.heap ty [.int .i64 x] i _ A M;have N:((w.alloc (.cells A ty)).drew.setCells w.heap.size i [.int .i64 x]).drew.heap=_:=h2;have h4:=qB w.heap ty ((dX l).drop i) (i+1) _ _ N;have F:=kT w.heap.size [.int .i64 x] i (w.alloc (.cells A ty)).drew;have G:=kT w.heap.size ((dX l).drop i) (i+1) ((w.alloc (.cells A ty)).drew.setCells w.heap.size i [.int .i64 x]).drew
 refine⟨_,⟨G.1.trans F.1,G.2.1.trans F.2.1,G.2.2.trans F.2.2,h4⟩,λj u e=>?_⟩;have D:((dX l).drop i).length=n-i:=by simp [E]
 rw [rK _ _ _ _ (by rw [oR,D,f];omega),rK _ _ _ _ (by rw [f];simp;omega),D];have m:dX (iR l i x)=(dX l).take i++Value.int .i64 x::(dX l).drop i:=by simp [dX,iR]
 rw [m,List.getElem?_append] at e;have K:((dX l).take i).length=i:=by simp [E];omega
 rw [K] at e;split at e
 ·rename_i C;rw [if_neg (by omega),if_neg (by simp;omega),<-H,Array.append_assoc,zK (by simp [K];omega)];simpa using e
 ·rename_i Q
  by_cases O:j=i
  ·subst O;rw [if_neg (by omega),if_pos (by simp)];simpa using e
  ·have B:((dX l).drop i)[j- (i+1)]? =some u:=by rw [show j-i=(j- (i+1))+1 by omega,zM] at e;exact e
   obtain⟨C,-⟩:=List.getElem?_eq_some_iff.1 B;rw [D] at C;rw [if_pos (by omega)];exact B
theorem aZE(w:World)(n cap:Nat)(x:Int)(l:List Int)(ty:TypeId)(z:Array Value):
 ∃arr,nR w (w.drew.alloc (.cells ((dX l++ [Value.int .i64 x]).toArray++Builtin.zeroCells z cap) ty)) arr (ty,false)/\
  ∀(j:Nat) (u:Value),(dX (iR l l.length x))[j]? =some u->arr[j]? =some u:=by
 refine⟨_,nR.drewAlloc w _ ty,λj u f=>?_⟩;have e:dX (iR l l.length x)=dX l++ [Value.int .i64 x]:=by simp [dX,iR]
 rw [e] at f;obtain⟨m,-⟩:=List.getElem?_eq_some_iff.1 f;rw [zK (by simpa using m)];simpa using f
theorem mN(l:List Int)(i:Nat)(x:Int):(iR l i x).length=l.length+1:=by simp [iR];omega
theorem bHH(l:List Int)(i:Nat)(x:Int)(hi:i<=l.length)(C:(l.length+1)*8<=140737488355328):
 aM Tryz.prog 287 [.row 1 [[.int .i64 x]]] [.lst 1 true (aB l),.int .i64 i,.sl 0 0 1] (.lst 1 false (aB (iR l i x))) [.row 1 [[.int .i64 x]]]:=by
 intro U σ w z T hn m
 obtain⟨c0,c1,c2,rfl⟩:∃a b c,z= #[a,b,c]:=by
  rcases z with ⟨L⟩
  match L,hn with
  | [a,b,c],_=>exact⟨a,b,c,rfl⟩
 have a0:=m 0 _ c0 rfl rfl;have a1:=m 1 _ c1 rfl rfl;have a2:=m 2 _ c2 rfl rfl;obtain⟨a,cap,b,o,rfl,Z,ad,ht,N⟩:=aZB a0;obtain rfl:=ht rfl
 cases a1 with
 |int=>
  cases a2 with
  | @sl _ _ _ _ vb es D va hs ag ha=>
    have O:=T.obj 0 (.row 1 [[.int .i64 x]]) rfl;rw [hs] at O;obtain⟨-,rfl,-,ae,ty,M,ac,B⟩:=O;obtain⟨xv,aa,-,ab⟩:=B 0 _ 0 _ rfl rfl
    cases ab with
    |int=>
     obtain rfl:=ha (by omega)
     have Q:∀(j:Nat) (v:Value),([Value.int .i64 x])[j]? =some v->w.cell? ⟨vb,0*1+j,none⟩=some v:=λj v F=>by
      cases j with
      |zero=> simp only [zN,zse] at F;subst F;rw [World.cell?,M];simpa using aa
      |succ j=>simp at F
     have K:∀(J:World) (f:Array Value) (R:TypeId) (G:Nat),nR w J f (R,false)->l.length+1<=G->(∀(j:Nat) (u:Value),(dX (iR l i x))[j]? =some u->f[j]? =some u)->
      ∃cv W,(Ending.returned (.slice (some ⟨w.heap.size,0,none⟩) (l.length+1) G))=.returned cv/\aV U W (aI 0 [.row 1 [[.int .i64 x]]]) J 1/\VR (Own U W (aI 0 [.row 1 [[.int .i64 x]]])) J W (.lst 1 false (aB (iR l i x))) cv/\
       bP σ (aI 0 [.row 1 [[.int .i64 x]]]) w 1 W (aI 0 [.row 1 [[.int .i64 x]]]) J 1:=λJ f R G H hG hg=>by
      obtain⟨g,Y⟩:=aV.newBlock T H;refine⟨_,σ,rfl,Y,?_,g⟩;rw [<-mN l i x];refine aXL H (λh=>?_) _ _ (by rw [mN];exact hG) hg;rcases h with h |h
      ·exact absurd (T.ulim _ h) (by omega)
      ·exact absurd (T.size h) (by omega)
     have one:∀v∈dX l,v.oneCell'=true:=λv hv=>by simp only [dX,zU] at hv;obtain⟨y,-,rfl⟩:=hv;rfl
     by_cases he:i=l.length
     ·subst he;refine(Any2.slices_Insert_int_end_grow aLL a l.length l.length vb (0*1) 1 (D-0) (dX l) [.int .i64 x] w (by omega) (by omega) (by omega) C (by simp [dX]) rfl (λh=>?_) (λa' h j v F=>?_) Q (by simp [bDV])).mono ?_
      ·cases l with
       |nil=>rfl
       |cons y r=>have :=(Z (by simp)).1;rw [h] at this;cases this
      ·have E:l≠ []:=by rintro rfl;simp [dX] at F
       have :=(Z E).1;rw [h] at this;cases this
       rw [Addr.add_lit];exact N j v F
      ·rintro e J ⟨rfl,rfl⟩;obtain⟨f,H,hg⟩:=aZE w l.length (grownCap w (l.length+1) l.length (aPF.t 3)- (l.length+1)) x l (aPF.t 3) (Value.int .i64 0).cells;exact K _ f _ _ H (kL _ _ _ _) hg
     ·have E:l≠ []:=by rintro rfl;simp at hi;exact he (by simpa using hi)
      obtain⟨rfl,ah,af⟩:=Z E;refine(Any2.slices_Insert_int_grow aLL b o l.length l.length i vb (0*1) 1 (D-0) (dX l) [.int .i64 x] w (by omega) (by omega) (by omega) (by omega) C (by simp [dX]) rfl N Q one (by simp [bDV])).mono ?_;rintro e J ⟨rfl,rfl⟩;obtain⟨f,H,hg⟩:=aW5 w i l.length (grownCap w (l.length+1) l.length (aPF.t 3)) x l (aPF.t 3) rfl (by omega) (Value.int .i64 0).cells rfl (kL _ _ _ _);exact K _ f _ _ H (kL _ _ _ _) hg
theorem bK6(x:Int):aM Tryz.prog 208 [] [.int .i64 x] (.bool (x != x)) []:=by refine cK Tryz.func208 ?_;refine Wk ?_;exact Lf
theorem aTK(x:Int):aM Tryz.prog 208 [] [.int .i64 x] (.bool false) []:=by
 have :=bK6 x
 rwa [show(x != x)=false by simp] at this
theorem bKL(x:Int):aM Tryz.prog 334 [] [.int .i64 x] (.bool (x != x)) []:=by refine cK Tryz.func334 ?_;refine Wk ?_;exact Lf
theorem aTP(x:Int):aM Tryz.prog 334 [] [.int .i64 x] (.bool false) []:=by
 have :=bKL x
 rwa [show(x != x)=false by simp] at this
theorem bQH(x y:Int):aM Tryz.prog 333 [] [.int .i64 x,.int .i64 y] (.bool (decide (x<y))) []:=by refine cK Tryz.func333 ?_;refine Wk2 (aTK x) (aTK y) ?_;exact Lf
def fM(l:List Int)(x:Int):Nat:=(l.takeWhile (decide<| ·<x)).length
theorem aQE:∀(l:List Int) (x:Int) (i:Nat),i<=l.length->(∀j,j<i->l.getD j 0<x)->(∀j,i<=j->j<l.length->x<=l.getD j 0)->fM l x=i
 | [],_,i,h,_,_=>by simp at h;subst h;rfl
 |y::r,x,0,_,_,h2=>by have :=h2 0 (by omega) (by simp);simp only [zT] at this;simp only [fM,zI];rw [show decide (y<x)=false by simpa using this];rfl
 |y::r,x,i+1,h,f,h2=>by have :=f 0 (by omega);simp only [zT] at this;have z:=aQE r x i (by simpa using h) (λj m=>by simpa using f (j+1) (by omega)) (λj m e=>by simpa using h2 (j+1) (by omega) (by simpa using e));simp only [fM,zI];rw [show decide (y<x)=true by simpa using this];simpa [fM] using z
def aD5(l:List Int)(x:Int):Bool:=bif decide (fM l x<l.length) then l.getD (fM l x) 0==x else false
theorem bHG(l:List Int)(t:Bool)(x:Int)(Y:l.length<=100000)(W:l.Pairwise (·< ·)):aM Tryz.prog 286 [] [.lst 1 t (aB l),.int .i64 x] (.tup [.int .i64 (fM l x),.bool (aD5 l x)]) []:=by
 have C:∀i j,i<j->j<l.length->l.getD i 0<l.getD j 0:=λi j O z=>by rw [<-fO l i (by omega),<-fO l j z];exact List.pairwise_iff_getElem.1 W i j (by omega) z O
 refine cK Tryz.func286 ?_;refine Wk ?_;rw [aA];refine⟨Nat×Nat,λp=>(p.1<=p.2/\p.2<=l.length)/\(∀j,j<p.1->l.getD j 0<x)/\(∀j,p.2<=j->j<l.length->x<=l.getD j 0),λp=>⟨[(0,⟨[],true,.lst 1 t (aB l)⟩),(1,⟨[],true,.int .i64 x⟩),(6,⟨[],true,.int .i64 (l.length:Int)⟩),(7,⟨[],true,.int .i64 (p.1:Int)⟩),(8,⟨[],true,.int .i64 (p.2:Int)⟩)],[],0⟩,λp=>p.2-p.1,⟨(0,l.length),⟨⟨by omega,by omega⟩,λj z=>by simp at z,λj z J=>by simp only at z;omega⟩,?_⟩,λp T=>?_⟩
 ·exact Vw []
 obtain⟨a,b⟩:=p;obtain⟨⟨M,D⟩,E,F⟩:=T;simp only at M D E F;refine Wk ?_;refine aC (λH=>?_) (λH=>?_)<;> try simp only [zC,zA,zE,zD,zG] at H
 ·have H:a<b:=by simpa using H
  refine Wk ?_;refine Wk ?_
  have Q:IntKind.i64.wrap ((IntKind.u64.wrap (IntKind.i64.wrap ((((a,b).fst:Nat):Int)+(((a,b).snd:Nat):Int)))).fdiv (2^min (Int.toNat 1) IntKind.u64.bits))=(((a+b)/2:Nat):Int):=by
   simp only [];rw [aP (n:=(a:Int)+b) (by omega) (by omega),show IntKind.u64.wrap ((a:Int)+b)=(a:Int)+b from by have :=Int.emod_eq_of_lt (a:=(a:Int)+b) (b:=18446744073709551616) (by omega) (by omega);simpa [IntKind.wrap,IntKind.bits,IntKind.signed] using this];have e:((a:Int)+b).fdiv (2^min (Int.toNat 1) IntKind.u64.bits)=((a:Int)+b)/2:=by rw [Int.fdiv_eq_ediv_of_nonneg _ (by decide)];rfl
   rw [e,aP (by omega) (by omega)];omega
  rw [Q];have B:a<=(a+b)/2/\(a+b)/2<b:=by omega
  generalize(a+b)/2=m at Q B;refine aG (⟨rfl,by omega,by rw [aA];omega⟩) ?_;rw [zF,bS l m (by omega),fO];refine cO (bQH (l.getD m 0) x) ?_;refine aC (λh2=>?_) (λh2=>?_)<;> try simp only [zC,zA,zE,zD,zG] at h2
  ·have h2:l.getD m 0<x:=by simpa using h2
   refine Wk ?_;rw [aP (n:=(m:Int)+1) (by omega) (by omega),show((m:Int)+1)=((m+1:Nat):Int) by omega];refine⟨(m+1,b),⟨⟨by show m+1<=b;omega,D⟩,λj z=>?_,F⟩,?_,by show b- (m+1)<b-a;omega⟩
   ·have z:j<m+1:=z
    by_cases e:j=m
    ·rw [e];exact h2
    ·have :=C j m (by omega) (by omega);omega
   exact Vw []
  have h2:x<=l.getD m 0:=by simpa using h2
  refine Wk ?_;refine⟨(a,m),⟨⟨B.1,by show m<=l.length;omega⟩,E,λj z J=>?_⟩,?_,by show m-a<b-a;omega⟩
  ·have z:m<=j:=z
   by_cases e:j=m
   ·rw [e];exact h2
   ·have :=C m j (by omega) J;omega
  exact Vw []
 have H:a=b:=by simp at H;omega
 subst H;have G:=aQE l x a D E F;have K:aD5 l x=(bif decide ((a:Int)< (l.length:Int)) then l.getD a 0==x else false):=by rw [aD5,G];congr 1;simp
 refine Wk ?_
 by_cases f:a<l.length
 ·have N:decide ((((a,a).fst:Nat):Int)< (l.length:Int))=true:=by simpa using f
  rw [N];refine aG (⟨rfl,by omega,by rw [aA];show(a:Int)<_;omega⟩) ?_;rw [zF,bS l a f,fO];refine Wk2 (aTP (l.getD a 0)) (aTP x) ?_;refine kE (λ_=>⟨rfl,by show(0:Int)<=(a:Int);omega,by rw [aA];show(a:Int)<_;omega⟩) ?_;rw [zF,bS l a f,fO];refine Wk2 (aTP (l.getD a 0)) (aTP x) ?_;rw [G,K,show decide ((a:Int)< (l.length:Int))=true by simpa using f];refine⟨[],trivial,rfl,trivial,rfl,?_⟩
  try subst K
  repeat' (first |exact trivial |rfl |exact .inl rfl |exact .inr rfl |exact id |exact zbc |apply And.intro)
  cases l.getD a 0==x <;> rfl
 ·have N:decide ((((a,a).fst:Nat):Int)< (l.length:Int))=false:=by simpa using f
  have R:(aB l).getD a []=[]:=by rw [zJ,List.getElem?_eq_none (by rw [aA];omega)];rfl
  rw [N];rw [zF,R];refine Wk ?_;rw [zF,R];refine Wk ?_;refine .inr ⟨λh=>(by cases h),λ_=>?_⟩
  refine Wk ?_;refine .inr ⟨λh=>(by cases h),λ_=>?_⟩
  refine Wk ?_;rw [G,K,show decide ((a:Int)< (l.length:Int))=false by simpa using f]
  try subst K
  exact Lf
def aO4(z:Zn)(f:Int):Zn:=⟨z.first,z.size,z.min,z.low,z.high,iR z.free (fM z.free f) f,false⟩
def eD(base l:List Zn)(f:Int):List Zn×Int:=
 bif !bB l then(base,1) else bif decide (eJ (inG f) l<0) then(base,2) else
 bif aD5 (l.getD (eJ (inG f) l).toNat gK).free f then(base,5) else
 (base.set (eJ (inG f) l).toNat (aO4 (l.getD (eJ (inG f) l).toNat gK) f),0)
theorem aCR(lo hi:Int)(l:List Int)(h:aA4 lo hi l l.length=true):l.Pairwise (·< ·):=by
 have step:∀i,i+1<l.length->l.getD i 0<l.getD (i+1) 0:=λi hi=>by have :=vE lo _ l l.length (i+1) hi h;simp only [mG,zR,Bool.and_eq_false_iff,zdn] at this;have h2:=this.2;rw [Nat.add_sub_cancel] at h2;omega
 have e:∀d i,i+d+1<l.length->l.getD i 0<l.getD (i+d+1) 0:=λd=>by
  induction d with
  |zero=>exact λi hi=>step i hi
  |succ d m=> intro i hi;have z:=m i (by omega);have h2:=step (i+d+1) (by omega);rw [show i+(d+1)+1=i+d+1+1 by omega];omega
 refine List.pairwise_iff_getElem.2 λi j hi B f=>?_;rw [fO,fO];have :=e (j-i-1) i (by omega)
 rwa [show i+(j-i-1)+1=j by omega] at this
theorem aAI:∀(l:List Int) (x:Int),fM l x<=l.length
 | [],_=>Nat.le_refl 0
 |y::r,x=>by have :=aAI r x;simp only [fM,zI] at this⊢;split <;> simp <;> omega
theorem bHB(l:List Zn)(t:Bool)(f:Int)(C:fL l):aM Tryz.prog 247 [] [.lst 6 t (aK l),.int .i64 f] (.tup [.lst 6 false (aK (eD (l.map gM) l f).1),.int .i64 (eD (l.map gM) l f).2]) []:=by
 have H:=C.len;refine cK Tryz.func247 ?_;generalize e:eD (l.map gM) l f=q;refine Wk ?_;refine .inr ⟨λ_=>⟨[],_,_,_,bH1 l t C,trivial,rfl,rfl,rfl,?_⟩,(by intro h;cases h)⟩
 refine cO (bA4 l t C) ?_;refine aC (λj=>?_) (λj=>?_)<;> try simp only [zC,zA,zE,zD,zG] at j
 ·have j:(!bB l)=true:=by rw [j];rfl
  simp only [eD,j,zct] at e;subst e;refine Wk ?_;refine⟨[],trivial,rfl,trivial,rfl,?_⟩
  try subst e
  repeat' (first |exact trivial |rfl |exact .inl rfl |exact .inr rfl |exact id |exact zbc |apply And.intro)
  ·show 0+l.length<=_;rw [aF];simp
  ·refine dB ?_;rw [aF];simp
 have m:bB l=true:=by simpa using j
 have j:(!bB l)=false:=by rw [m];rfl
 have hg:=rO m;simp only [eD,j,zcf] at e;refine Wk ?_;refine .inl ⟨_,λ_=>⟨?_,bQ3 l t 318 [.rp 1 [.int .i64 f] 0] (inG f) call58 rfl (λx _=>bQB x f) (by omega)⟩,.inr rfl,?_⟩
 ·intro v B;have B:v∈ [V.lst 6 t (aK l),V.fn 318 [V.ptr 0 0 0]]:=B;rcases List.mem_cons.1 B with rfl |B
  ·exact trivial
  ·obtain rfl:=List.mem_singleton.1 B;intro c J;obtain rfl:=List.mem_singleton.1 J;exact⟨rfl,rfl⟩
 refine Wk ?_;refine aC (λh2=>?_) (λh2=>?_)<;> try simp only [zC,zA,zE,zD,zG] at h2
 ·simp only [h2,zct] at e;subst e;refine Wk ?_;refine⟨[],trivial,rfl,trivial,rfl,?_⟩
  try subst e
  repeat' (first |exact trivial |rfl |exact .inl rfl |exact .inr rfl |exact id |exact zbc |apply And.intro)
  ·show 0+l.length<=_;rw [aF];simp
  ·refine dB ?_;rw [aF];simp
 simp only [h2,zcf] at e;obtain⟨n,z,F,-,-⟩:=qQ (inG f) l (by simpa using h2);rw [F] at e⊢;rw [zF] at e;have E:=hg l[n] (zX z);have D:=C.free l[n] (zX z);have G:=aCR _ _ _ E.asc;simp only [aF8 l n z] at e;refine Wk ?_;refine⟨λ_=>⟨by omega,by omega⟩,?_⟩;refine Wk ?_;refine⟨λ_=>by rw [aF];simp;omega,?_⟩;refine Wk ?_;rw [zP,zF,aJI l n z];refine cO (bHG l[n].free true f D G) ?_;refine aC (λh4=>?_) (λh4=>?_)<;> try simp only [zC,zA,zE,zD,zG] at h4
 ·simp only [h4,zct] at e;subst e;refine Wk ?_;refine⟨[],trivial,rfl,trivial,rfl,?_⟩
  try subst e
  repeat' (first |exact trivial |rfl |exact .inl rfl |exact .inr rfl |exact id |exact zbc |apply And.intro)
  ·show 0+l.length<=_;rw [aF];simp
  ·refine dB ?_;rw [aF];simp
 simp only [h4,zcf] at e;refine Wk ?_;refine⟨λ_=>⟨by omega,by omega⟩,?_⟩;refine Wk ?_;refine⟨λ_=>by rw [aF];simp;omega,?_⟩;refine Wk ?_;rw [zP,zF,aJI l n z];refine Wk ?_;refine .inr ⟨λ_=>⟨[11408],_,_,_,bHH l[n].free (fM l[n].free f) f (aAI _ _) (by omega),⟨rfl,trivial⟩,rfl,rfl,rfl,?_⟩,(by intro h;cases h)⟩
 refine Wk ?_;refine⟨λ_=>⟨by omega,by omega⟩,?_⟩;refine Wk ?_;refine⟨by rw [aF];simp;omega,?_⟩;refine Wk ?_;subst e;refine⟨[],trivial,rfl,trivial,rfl,?_⟩
 try subst e
 repeat' (first |exact trivial |rfl |exact .inl rfl |exact .inr rfl |exact id |exact zbc |apply And.intro)
 ·show 0+l.length<=_;rw [List.length_set,aF];simp
 ·rw [zP,zF];refine(congrArg (λr=>List.take l.length (List.drop 0 r)) (aLZ (l.map gM) n (by simp;omega) (iR l[n].free (fM l[n].free f) f) false)).trans ?_;refine(dB (by rw [aF];simp)).trans ?_;simp only [List.getElem_map];rfl
end Go.Proofs.YtmhapcbjjpadnaaGreat
