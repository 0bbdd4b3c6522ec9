/- Caches. -/
import Derived.Test.YtmhapcbjjpadnaaGreatG1g
set_option linter.all false
set_option maxHeartbeats 8000000
set_option maxRecDepth 40000
open Bool renaming cond_false_right→zA,cond_true_left→zC,not_eq_false'→zD,not_eq_true'→zE,not_not→zG,or_eq_false_iff→zH,true_and→zK,and_eq_true→zM,or_eq_true→zO
open Int renaming toNat_natCast→zF
open List renaming drop_eq_getElem_cons→zI,getElem_mem→zJ,drop_length→zL,length_set→zP
open Nat renaming zero_add→zN
namespace Go.Proofs.YtmhapcbjjpadnaaGreat
open Go Go.Sk Go.RowKit
def aA4:Int->List Zn->Bool
 |_,[]=>true
 |f,z::r=>jW z f&&aA4 (kT z) r
def aZ(l:List Zn):Bool:=aA4 1 l&&decide (0< (l.length:Int))
structure fF(l:List Zn):Prop where
 len:l.length<=100000
 free:∀z∈l,z.free.length<=100000
theorem fF.at {l:List Zn} (h:fF l) {i:Nat} (hi:i<l.length):(l[i].free.length:Int)<2^62:=by have :=h.free _ (zJ hi);omega
theorem aZD(l:List Zn)(t:Bool)(D:fF l):aM Tryz.prog 211 [] [.lst 6 t (aJ l)] (.bool (aZ l)) []:=by
 have E:=D.len;refine cF Tryz.func211 ?_;generalize m:aZ l=q;refine Wk ?_;rw [aF];refine⟨Nat×Int,λp=>p.1<=l.length/\aA4 1 l=aA4 p.2 (l.drop p.1),λp=>⟨[(0,⟨[],true,.lst 6 t (aJ l)⟩),(2,⟨[],true,.bool false⟩),(3,⟨[],true,.int .i64 p.2⟩),(6,⟨[],true,.lst 6 t (aJ l)⟩),(7,⟨[],true,.int .i64 (l.length:Int)⟩),(8,⟨[],true,.int .i64 (p.1:Int)⟩)],[],0⟩,λp=>l.length-p.1,⟨(0,1),⟨by simp,rfl⟩,?_⟩,λp F=>?_⟩
 ·exact Vw []
 obtain⟨i,f⟩:=p;obtain⟨B,e⟩:=F;simp only at B e;refine Wk ?_;refine aC (λj=>?_) (λj=>?_)<;> try simp only [zC,zA,zE,zD,zG] at j
 ·have j:i<l.length:=by simp at j;omega
  rw [zI j,aA4] at e;have C:=D.at j;refine Wk ?_
  first |refine aI (⟨rfl,by omega,by rw [aF];omega⟩) ?_ |refine jS (λ_=>⟨rfl,by omega,by rw [aF];omega⟩) ?_ |refine⟨λ_=>⟨rfl,by omega,by rw [aF];omega⟩,?_⟩
  rw [zF,eV l i j];generalize l[i]=z at e C;refine cL (bON z f C) ?_;refine aC (λh4=>?_) (λh4=>?_)<;> try simp only [zC,zA,zE,zD,zG] at h4
  ·have h4:jW z f=false:=by simpa using h4
   rw [aZ,e,h4] at m;have m:q=false:=by rw [<-m];rfl
   subst m;refine Wk ?_
   try subst m
   exact Lf
  have h4:jW z f=true:=by simpa using h4
  rw [h4,zK] at e;refine cL (aSS z) ?_;rw [aN (n:=(i:Int)+1) (by omega) (by omega),show((i:Int)+1)=((i+1:Nat):Int) by omega];refine⟨(i+1,kT z),⟨by show i+1<=_;omega,e⟩,?_,by show l.length- (i+1)<l.length-i;omega⟩;exact Vw []
 have j:i=l.length:=by simp at j;omega
 rw [j,zL,aA4] at e;rw [aZ,e,zK] at m;refine Wk ?_;rw [aF];subst m;refine Wk ?_
 try subst m
 exact Lf
def aGB(z:Zn)(f:Int):Bool:=(z.first != f||decide (z.size<1))||decide (IntKind.i64.wrap (65-f)<z.size)
def aUB(z:Zn)(f:Int):Bool:=((((aGB z f||decide (z.min<0))||decide (z.low<z.min))||decide (z.high<z.low))||decide (z.size<z.high))
theorem bBY(z:Zn)(f:Int)(j:1<=f/\f<=65)(h:aUB z f=false):jO z f=false/\kW z=false/\kT z=f+z.size/\1<=kT z/\kT z<=65:=by
 simp only [aUB,aGB,zH,zdn,bne_eq_false_iff_eq] at h;rw [aN (by omega) (by omega)] at h;have e:kT z=f+z.size:=by rw [kT,aN (by omega) (by omega)];omega
 refine⟨?_,?_,e,by omega,by omega⟩
 ·simp only [jO,zH,zdn,bne_eq_false_iff_eq];omega
 ·simp only [kW,zH,zdn];omega
theorem aPL(z:Zn)(f:Int)(j:1<=f/\f<=65)(h:aUB z f=true):jW z f=false:=by
 rw [jW]
 by_cases h1:jO z f=true
 ·rw [h1];rfl
 ·have h1:jO z f=false:=by simpa using h1
  have h2:kW z=true:=by
   simp only [aUB,aGB,zO,decide_eq_true_eq,bne_iff_ne] at h;rw [aN (by omega) (by omega)] at h;simp only [jO,zH,zdn,bne_eq_false_iff_eq] at h1;have e:kT z=f+z.size:=by rw [kT,aN (by omega) (by omega)];omega
   simp only [kW,zO,decide_eq_true_eq];omega
  rw [h1,h2];rfl
theorem aZE(l:List Zn)(t:Bool)(G:fF l):aM Tryz.prog 212 [] [.lst 6 t (aJ l)] (.bool (aZ l)) []:=by
 have H:=G.len;refine cF Tryz.func212 ?_;generalize j:aZ l=q;refine Wk ?_;refine⟨Nat×Int,λp=>p.1<=l.length/\(1<=p.2/\p.2<=65)/\aA4 1 l=aA4 p.2 (l.drop p.1),λp=>⟨[(0,⟨[],true,.lst 6 t (aJ l)⟩),(2,⟨[],true,.bool false⟩),(3,⟨[],true,.int .i64 p.2⟩),(4,⟨[],true,.int .i64 (p.1:Int)⟩)],[],0⟩,λp=>l.length-p.1,⟨(0,1),⟨by simp,by decide,rfl⟩,?_⟩,λp N=>?_⟩
 ·exact Vw []
 obtain⟨i,f⟩:=p;obtain⟨E,B,e⟩:=N;simp only at E e B;refine Wk ?_;rw [aF];refine aC (λm=>?_) (λm=>?_)<;> try simp only [zC,zA,zE,zD,zG] at m
 ·have m:i<l.length:=by simp at m;omega
  rw [zI m,aA4] at e;have R:=G.at m;refine Wk ?_
  first |refine aI (⟨rfl,by omega,by rw [aF];omega⟩) ?_ |refine jS (λ_=>⟨rfl,by omega,by rw [aF];omega⟩) ?_ |refine⟨λ_=>⟨rfl,by omega,by rw [aF];omega⟩,?_⟩
  rw [zF,eV l i m];generalize l[i]=z at e R;refine Wk ?_;refine aC (λh4=>?_) (λh4=>?_)<;> try simp only [zC,zA,zE,zD,zG] at h4
  ·have h4:aUB z f=true:=h4;rw [aZ,e,aPL z f B h4] at j;have j:q=false:=by rw [<-j];rfl
   subst j;refine Wk ?_
   try subst j
   exact Lf
  have h4:aUB z f=false:=h4;obtain⟨e1,J,K,M⟩:=bBY z f B h4;have F:jW z f=vM z.first (kT z) z.free z.free.length:=by rw [jW,e1,J];rfl
  refine Wk ?_;refine⟨Nat,λk=>k<=z.free.length/\vM z.first (kT z) z.free k=true,λk=>⟨[(0,⟨[],true,.lst 6 t (aJ l)⟩),(2,⟨[],true,.bool false⟩),(3,⟨[],true,.int .i64 f⟩),(4,⟨[],true,.int .i64 (i:Int)⟩),(5,⟨[],true,.ptr 0 0 0⟩),(6,⟨[],true,.int .i64 (k:Int)⟩)],[(0,.box z.c)],1⟩,λk=>z.free.length-k,⟨0,⟨by omega,rfl⟩,?_⟩,λk O=>?_⟩
  ·exact Vq [some _]
  obtain⟨Q,D⟩:=O;refine Wk ?_;rw [aA];refine aC (λh5=>?_) (λh5=>?_)<;> try simp only [zC,zA,zE,zD,zG] at h5
  ·have h5:k<z.free.length:=by simp at h5;omega
   refine Wk ?_
   first |refine aI (⟨rfl,by omega,by rw [aA];omega⟩) ?_ |refine jS (λ_=>⟨rfl,by omega,by rw [aA];omega⟩) ?_ |refine⟨λ_=>⟨rfl,by omega,by rw [aA];omega⟩,?_⟩
   rw [zF,bQ z.free k h5];refine Wk ?_
   first |refine aI (⟨rfl,by omega,by rw [aA];omega⟩) ?_ |refine jS (λ_=>⟨rfl,by omega,by rw [aA];omega⟩) ?_ |refine⟨λ_=>⟨rfl,by omega,by rw [aA];omega⟩,?_⟩
   rw [zF,bQ z.free k h5];refine Wk ?_
   first |refine aI (⟨rfl,by omega,by rw [aA];omega⟩) ?_ |refine jS (λ_=>⟨rfl,by omega,by rw [aA];omega⟩) ?_ |refine⟨λ_=>⟨rfl,by omega,by rw [aA];omega⟩,?_⟩
   rw [zF,bQ z.free k h5];refine Wk ?_;rw [aBF k (by omega)]
   first |refine jS (λhg=>⟨rfl,?_,?_⟩) ?_ |refine⟨λhg=>⟨rfl,?_,?_⟩,?_⟩
   ·simp only [zM,decide_eq_true_eq] at hg;rw [qS k (by omega)];omega
   ·rw [qS k (by omega),aA];omega
   rw [bQ z.free (k-1) (by omega)];refine Wk ?_;rw [fM,fM];refine aC (λC=>?_) (λC=>?_)<;> try simp only [zC,zA,zE,zD,zG] at C
   ·have C:lU z.first (kT z) z.free k=true:=C;rw [aZ,e,F,aMD _ _ _ _ k h5 C] at j;have j:q=false:=by rw [<-j];rfl
    subst j;refine Wk ?_
    try subst j
    exact Lf
   have C:lU z.first (kT z) z.free k=false:=C;refine Wk ?_;rw [aN (n:=(k:Int)+1) (by omega) (by omega),show((k:Int)+1)=((k+1:Nat):Int) by omega];refine⟨k+1,⟨by omega,by simp only [vM,D,C];rfl⟩,?_,by show z.free.length- (k+1)<z.free.length-k;omega⟩;exact Vw [some 0]
  have h5:k=z.free.length:=by simp at h5;omega
  rw [F,<-h5,D,zK] at e;refine Wk ?_;rw [aN (n:=f+z.size) (by omega) (by omega),aN (n:=(i:Int)+1) (by omega) (by omega),show((i:Int)+1)=((i+1:Nat):Int) by omega];refine⟨(i+1,kT z),⟨by show i+1<=_;omega,M,e⟩,?_,by show l.length- (i+1)<l.length-i;omega⟩;rw [<-K];exact Vw []
 have m:i=l.length:=by simp at m;omega
 rw [m,zL,aA4] at e;rw [aZ,e,zK] at j;refine Wk ?_;rw [aF];subst j;refine Wk ?_
 try subst j
 exact Lf
def jD(z:Zn):Zn:=⟨z.first,z.size,z.min,z.low,z.high,z.free,true⟩
def kR(l:List Zn)(i:Nat):List Zn:=(l.take i).map jD++l.drop i
theorem aA5(l:List Zn)(i:Nat):(kR l i).length=l.length:=by simp [kR];omega
theorem aPR(l:List Zn)(i:Nat)(h:i<l.length):(kR l i)[i]'(by rw [aA5];exact h)=l[i]:=by
 have e:((l.take i).map jD).length=i:=by simp;omega
 simp only [kR];rw [List.getElem_append_right (by omega)];simp only [e,Nat.sub_self,List.getElem_drop,Nat.add_zero]
theorem aPS(l:List Zn)(i:Nat)(h:i<l.length):(kR l i).set i (jD l[i])=kR l (i+1):=by
 have e:((l.take i).map jD).length=i:=by simp;omega
 simp only [kR];rw [List.set_append_right _ _ (by omega),e,Nat.sub_self,zI h,List.set_cons_zero,List.take_succ_eq_append_getElem h,List.map_append,List.append_assoc];rfl
theorem aPQ(l:List Zn):kR l l.length=l.map jD:=by simp [kR]
theorem aMP(l:List Zn):kR l 0=l:=by simp [kR]
theorem aLC(L:List Zn)(i:Nat)(h:i<L.length)(f:List Int)(e:Bool):
 (aJ L).set i (aS 6 ((aJ L).getD i []) 5 [.lst 1 e (aB f)])=aJ (L.set i ⟨(L[i]'h).first,(L[i]'h).size,(L[i]'h).min,(L[i]'h).low,(L[i]'h).high,f,e⟩):=by
 rw [eV L i h,aJ,aJ,List.map_set];rfl
theorem bC8 {e:List (List V)} {n:Nat} {z:List V} (h:e.length=n):(List.replicate n z).take 0++e.take (min e.length n)++(List.replicate n z).drop (0+min e.length n)=e:=by subst h;simp
theorem bGE(l:List Zn)(t:Bool)(j:fF l):aM Tryz.prog 210 [] [.lst 6 t (aJ l)] (.sl 0 0 l.length) [.row 6 (aJ (l.map jD))]:=by
 have m:=j.len;refine eY (ob0:= []) [.r 26] Tryz.func210 rfl rfl rfl rfl ?_;refine Wk ?_;refine .inr ⟨λ_=>⟨[],_,_,_,aSN (aJ l) t (by rw [aF];omega),trivial,rfl,rfl,rfl,?_⟩,(by intro h;cases h)⟩
 rw [aF];refine Wk ?_;refine⟨Nat,λi=>i<=l.length,λi=>⟨[(0,⟨[],true,.lst 6 t (aJ l)⟩),(3,⟨[],true,.sl 0 0 l.length⟩),(9,⟨[],true,.int .i64 (l.length:Int)⟩),(10,⟨[],true,.int .i64 (i:Int)⟩)],[(0,.row 6 (aJ (kR l i)))],1⟩,λi=>l.length-i,⟨0,by omega,?_⟩,λi f=>?_⟩
 ·exact Vw [some 0]
  try rw [aMP]
 have f:i<=l.length:=f;refine Wk ?_;refine aC (λe=>?_) (λe=>?_)<;> try simp only [zC,zA,zE,zD,zG] at e
 ·have e:i<l.length:=by simp at e;omega
  have C:=j.free _ (zJ e);refine Wk ?_;refine aI (⟨rfl,by omega,by rw [aF];omega⟩) ?_;rw [zF,eV l i e];generalize B:l[i]=z at C;refine Wk ?_;rw [aA];refine Wk ?_;refine aTC (by omega) (by omega) (by omega) (by omega) ?_;rw [zF];refine Wk ?_
  refine⟨Unit,λ_=>True,λ_=>⟨[(0,⟨[],true,.lst 6 t (aJ l)⟩),(3,⟨[],true,.sl 0 0 l.length⟩),(4,⟨[],true,.int .i64 (i:Int)⟩),(5,⟨[],true,.lst 1 true (aB z.free)⟩),(9,⟨[],true,.int .i64 (l.length:Int)⟩),(10,⟨[],true,.int .i64 (i:Int)⟩)],[(0,.row 6 (aJ (kR l i)))],1⟩,?_,λ_ _=>?_⟩
  ·refine Wk ?_;refine aI (⟨rfl,by omega,by rw [aF];omega⟩) ?_;rw [zF,eV l i e,B];refine Wk ?_;refine aI (by simp) ?_;rw [bC8 (aA _)];refine Wk ?_;refine⟨(),trivial,?_⟩;refine bV [some 0] rfl rfl ?_ rfl ?_ rfl ?_
   repeat' (first |exact trivial |rfl |exact .inl rfl |exact .inr rfl |exact id |exact zbc |apply And.intro)
   ·exact λ_=>rfl
   ·show 0+z.free.length<=(aB z.free).length;rw [aA];omega
   ·exact dL (aA _)
  ·refine Wk ?_;refine aI (⟨by omega,by omega⟩) ?_;refine Wk ?_;refine aI (by rw [aF,aA5];omega) ?_;refine Wk ?_;rw [zF,zN,aN (n:=(i:Int)+1) (by omega) (by omega),show((i:Int)+1)=((i+1:Nat):Int) by omega];refine⟨i+1,by show i+1<=_;omega,?_,by show l.length- (i+1)<l.length-i;omega⟩;refine bV [some 0] rfl rfl ?_ rfl ?_ rfl ?_
   repeat' (first |exact trivial |rfl |exact .inl rfl |exact .inr rfl |exact id |exact zbc |apply And.intro)
   refine(aLC (kR l i) i (by rw [aA5];exact e) z.free true).trans ?_;rw [aPR l i e,<-aPS l i e,B];rfl
 have e:i=l.length:=by simp at e;omega
 subst e;rw [aPQ];refine Wk ?_;exact⟨[some 0],Cl,rfl,Cl,rfl,Cl⟩
structure aM7(z:Zn):Prop where
 first :1<=z.first
 size:1<=z.size/\z.size<=64
 stop:z.first+z.size<=65
 marks:0<=z.min/\z.min<=z.low/\z.low<=z.high/\z.high<=z.size
 asc:vM z.first (z.first+z.size) z.free z.free.length=true
theorem sE {z:Zn} {f:Int} (j:1<=f/\f<=65)(h:jW z f=true):aM7 z/\z.first=f/\kT z=f+z.size:=by
 rw [jW] at h
 cases h1:jO z f with
 |true=>rw [h1] at h;cases h
 |false=>
  cases h2:kW z with
  |true=>rw [h1,h2] at h;cases h
  |false=>
   rw [h1,h2] at h;simp only [zcf] at h;simp only [jO,zH,zdn,bne_eq_false_iff_eq] at h1;simp only [kW,zH,zdn] at h2;have e:kT z=z.first+z.size:=by rw [kT,aN (by omega) (by omega)]
   rw [e] at h h1;exact⟨⟨by omega,by omega,by omega,by omega,h⟩,by omega,by omega⟩
theorem aIL:∀(l:List Zn) (f:Int),1<=f/\f<=65->aA4 f l=true->∀z∈l,aM7 z
 | [],_,_,_=>by simp
 |z::r,f,j,h=>by
  simp only [aA4,zM] at h;obtain⟨g,h1,h2⟩:=sE j h.1;have :=g.stop;have :=g.size;intro y e;rcases List.mem_cons.1 e with rfl |e
  ·exact g
  ·exact aIL r _ (by omega) h.2 y e
theorem rG {l:List Zn} (h:aZ l=true):∀z∈l,aM7 z:=by simp only [aZ,zM] at h;exact aIL l 1 (by decide) h.1
def lR(g:Zn->Int):List Zn->Int
 | []=>0
 |z::r=>g z+lR g r
def oM(z:Zn):Int:=z.free.length
def aIX(l:List Zn):Int:=bif aZ l then lR oM l else 0
theorem aXT {l:List Zn} (e:fF l) {i:Nat} (h:i<l.length):0<=oM l[i]/\oM l[i]<=100000:=by have :=e.free _ (zJ h);unfold oM;omega
theorem bN6(l:List Zn)(t:Bool)(hl:fF l):aM Tryz.prog 114 [] [.lst 6 t (aJ l)] (.int .i64 (aIX l)) []:=by
 have hlen:=hl.len;refine cF Tryz.func114 ?_;generalize hk:aIX l=q;refine cL (aZE l t hl) ?_;refine aC (λh1=>?_) (λh1=>?_)
 case' refine_2=>
  simp only [aIX,h1,zcf] at hk;subst hk;refine Wk ?_
  try subst hk
  exact Lf
 simp only [aIX,h1,zct] at hk;refine Wk ?_;refine⟨Nat×Int,λp=>p.1<=l.length/\p.2+lR oM (l.drop p.1)=q/\0<=p.2/\p.2<=100000*(p.1:Int),λp=>⟨[(0,⟨[],true,.lst 6 t (aJ l)⟩),(2,⟨[],true,.int .i64 0⟩),(3,⟨[],true,.int .i64 p.2⟩),(4,⟨[],true,.int .i64 (p.1:Int)⟩)],[],0⟩,λp=>l.length-p.1,⟨(0,0),⟨by simp,by simpa using hk,by simp,by simp⟩,?_⟩,λp hI=>?_⟩
 ·exact Vw []
 obtain⟨i,s⟩:=p;obtain⟨hI1,hI2,hI3,hI4⟩:=hI;simp only at hI1 hI2 hI3 hI4;refine Wk ?_;rw [aF];refine aC (λh3=>?_) (λh3=>?_)<;> try simp only [zC,zA,zE,zD,zG] at h3
 ·have h3:i<l.length:=by simp at h3;omega
  have hf:=aXT hl h3;have hst:lR oM (l.drop i)=oM l[i]+lR oM (l.drop (i+1)):=by rw [zI h3];rfl
  rw [hst] at hI2;refine Wk ?_;refine aI (⟨rfl,by omega,by rw [aF];omega⟩) ?_;rw [zF,eV l i h3];generalize l[i]=z at hI2 hf;refine Wk ?_;rw [aA];unfold oM at hI2 hf;rw [aN (n:=s+(z.free.length:Int)) (by omega) (by omega),aN (n:=(i:Int)+1) (by omega) (by omega),show((i:Int)+1)=((i+1:Nat):Int) by omega]
  refine⟨(i+1,s+(z.free.length:Int)),⟨by show i+1<=_;omega,by show s+(z.free.length:Int)+lR oM (l.drop (i+1))=q;unfold oM;omega,by show 0<=s+(z.free.length:Int);omega,by show s+(z.free.length:Int)<=100000*((i+1:Nat):Int);omega⟩,?_,by show l.length- (i+1)<l.length-i;omega⟩;exact Vw []
 have h3:i=l.length:=by simp at h3;omega
 rw [h3,zL,lR,Int.add_zero] at hI2;subst hI2;refine Wk ?_
 try subst hk
 exact Lf
def inG(f:Int)(z:Zn):Bool:=bif decide (z.first<=f) then decide (f<kT z) else false
theorem bOZ(z:Zn)(f:Int):aM Tryz.prog 318 [] [.agg z.c,.rp 1 [.int .i64 f] 0] (.bool (inG f z)) []:=by refine cF Tryz.func318 ?_;refine cL (aSS z) ?_;exact Lf
theorem call58:jE Tryz.prog 318:=⟨_,Tryz.func318,rfl,rfl⟩
def aGQ(u:Bool)(z:Zn):Int:=bif u then 0 else z.min
def tT(u:Bool)(z:Zn):Bool:=decide (aGQ u z< (z.free.length:Int))
def fI(l:List Zn)(u:Bool):Nat->Option Nat
 |0=>none
 |i+1=>bif tT u (l.getD i gU) then some i else fI l u i
def aHV(z:Zn):Zn:=⟨z.first,z.size,z.min,z.low,z.high,z.free.drop 1,false⟩
def cS(base l:List Zn)(p:Int)(u:Bool):List Zn×Int×Int:=
 bif !aZ l then(base,0,1) else bif decide (p<0)||decide ((l.length:Int)<=p) then(base,0,2) else
 match fI l u (p+1).toNat with
 |some i=>(base.set i (aHV (l.getD i gU)),(l.getD i gU).free.getD 0 0,0)
 |none=>(base,0,3)
theorem aEJ(l:List Zn)(i:Nat)(h:i<l.length):l.getD i gU=l[i]:=by simp [List.getD_eq_getElem?_getD,h]
theorem aIY(l:List Zn)(i:Nat)(h:i<l.length):(aJ (l.map jD)).getD i []=(jD l[i]).c:=by rw [eV _ i (by simpa using h)];simp
theorem drop1(l:List Int):((aB l).take (aB l).length).drop (1:Int).toNat=aB (l.drop 1):=by rw [List.take_length,aB,aB,List.map_drop];rfl
theorem bG2(l:List Zn)(t:Bool)(p:Int)(u:Bool)(D:fF l):aM Tryz.prog 109 [] [.lst 6 t (aJ l),.int .i64 p,.bool u] (.tup [.lst 6 false (aJ (cS (l.map jD) l p u).1),.int .i64 (cS (l.map jD) l p u).2.1,.int .i64 (cS (l.map jD) l p u).2.2]) []:=by
 have F:=D.len;refine cF Tryz.func109 ?_;generalize e:cS (l.map jD) l p u=q;refine Wk ?_;refine .inr ⟨λ_=>⟨[],_,_,_,bGE l t D,trivial,rfl,rfl,rfl,?_⟩,(by intro h;cases h)⟩
 refine cL (aZD l t D) ?_;refine aC (λh1=>?_) (λh1=>?_)<;> try simp only [zC,zA,zE,zD,zG] at h1
 ·have h1:(!aZ l)=true:=by rw [h1];rfl
  simp only [cS,h1,zct] at e;subst e;refine Wk ?_;refine⟨[],trivial,rfl,trivial,rfl,?_⟩
  try subst e
  repeat' (first |exact trivial |rfl |exact .inl rfl |exact .inr rfl |exact id |exact zbc |apply And.intro)
  ·show 0+l.length<=_;rw [aF];simp
  ·refine dL ?_;rw [aF];simp
 have B:aZ l=true:=by simpa using h1
 have h1:(!aZ l)=false:=by rw [B];rfl
 have hg:=rG B;simp only [cS,h1,zcf] at e;refine Wk ?_;rw [aF];refine aC (λh2=>?_) (λh2=>?_)<;> try simp only [zC,zA,zE,zD,zG] at h2
 ·simp only [h2,zct] at e;subst e;refine Wk ?_;refine⟨[],trivial,rfl,trivial,rfl,?_⟩
  try subst e
  repeat' (first |exact trivial |rfl |exact .inl rfl |exact .inr rfl |exact id |exact zbc |apply And.intro)
  ·show 0+l.length<=_;rw [aF];simp
  ·refine dL ?_;rw [aF];simp
 simp only [h2,zcf] at e;simp only [zH,zdn] at h2;refine Wk ?_;refine⟨Int,λi=>(-1<=i/\i<l.length)/\fI l u (i+1).toNat=fI l u (p+1).toNat,λi=>⟨[(2,⟨[],true,.bool u⟩),(9,⟨[],true,.sl 0 0 l.length⟩),(10,⟨[],true,.int .i64 i⟩)],[(0,.row 6 (aJ (l.map jD)))],1⟩,λi=>(i+1).toNat,⟨p,⟨by omega,rfl⟩,?_⟩,λi G=>?_⟩
 ·exact Vq [some _]
 obtain⟨⟨H,J⟩,m⟩:=G;refine Wk ?_;refine aC (λC=>?_) (λC=>?_)<;> try simp only [zC,zA,zE,zD,zG] at C
 ·have C:0<=i:=by simpa using C
  obtain⟨n,rfl⟩:∃n:Nat,i=n:=⟨i.toNat,by omega⟩;have f:n<l.length:=by omega
  refine Wk ?_;refine aI (⟨by omega,by omega⟩) ?_;refine Wk ?_;refine aI (by rw [aF];simp;omega) ?_;refine Wk ?_;rw [zN,zF,aIY l n f];refine Wk ?_;refine aC (λE=>?_) (λE=>?_)<;> try simp only [zC,zA,zE,zD,zG] at E
  all_goals
   refine Wk ?_;refine aI (⟨by omega,by omega⟩) ?_;refine Wk ?_;refine aI (by rw [aF];simp;omega) ?_;refine Wk ?_;rw [zN,zF,aIY l n f];refine Wk ?_;rw [aA];refine aC (λh4=>?_) (λh4=>?_)<;> try simp only [zC,zA,zE,zD,zG] at h4
   ·have h4:tT u l[n]=true:=by rw [tT,aGQ,E];exact h4
    have j:0<l[n].free.length:=by have :=(hg l[n] (zJ f)).marks;simp only [tT,aGQ,E,decide_eq_true_eq,zct,zcf] at h4;omega
    have z:fI l u (n+1)=some n:=by simp only [fI,aEJ l n f,h4,zct]
    rw [<-m,show((n:Int)+1).toNat=n+1 by omega,z] at e;simp only [aEJ l n f] at e;refine Wk ?_;refine aI (⟨by omega,by omega⟩) ?_;refine Wk ?_;refine aI (by rw [aF];simp;omega) ?_;refine Wk ?_;rw [zN,zF,aIY l n f];refine Wk ?_;refine aI (⟨rfl,by decide,by rw [aA];show(0:Int)< (l[n].free.length:Int);omega⟩) ?_;rw [show((0:Int)).toNat=0 from rfl,bQ _ 0 (by exact j)];refine Wk ?_;refine aI (⟨by omega,by omega⟩) ?_;refine Wk ?_;refine aI (by rw [aF];simp;omega) ?_;refine Wk ?_
    rw [zN,zF,aIY l n f];refine Wk ?_;refine aI (⟨.inl rfl,by decide,by rw [aA];show(1:Int)<=(l[n].free.length:Int);omega,Int.le_refl _⟩) ?_;rw [zF,drop1];refine Wk ?_;refine aI (⟨by omega,by omega⟩) ?_;refine Wk ?_;refine aI (by rw [aF];simp;omega) ?_;refine Wk ?_;subst e;refine⟨[],trivial,rfl,trivial,rfl,?_⟩
    try subst e
    repeat' (first |exact trivial |rfl |exact .inl rfl |exact .inr rfl |exact id |exact zbc |apply And.intro)
    ·show 0+l.length<=_;rw [zP,aF];simp
    ·rw [zN,zF];refine(congrArg (λr=>List.take l.length (List.drop 0 r)) (aLC (l.map jD) n (by simp;omega) (l[n].free.drop 1) false)).trans ?_;refine(dL (by rw [aF];simp)).trans ?_;simp only [List.getElem_map];rfl
    ·exact fM _ 0 j
   have h4:tT u l[n]=false:=by rw [tT,aGQ,E];exact h4
   have z:fI l u (n+1)=fI l u n:=by simp only [fI,aEJ l n f,h4,zcf]
   refine Wk ?_;rw [aN (n:=(n:Int)-1) (by omega) (by omega)];refine⟨(n:Int)-1,⟨by omega,by rw [show((n:Int)-1+1).toNat=n by omega,<-z,<-m,show((n:Int)+1).toNat=n+1 by omega]⟩,?_,by show((n:Int)-1+1).toNat< ((n:Int)+1).toNat;omega⟩;exact Vw [some 0]
 have C:i= -1:=by simp at C;omega
 subst C;rw [<-m] at e;have e:(l.map jD,(0:Int),(3:Int))=q:=e;subst e;refine Wk ?_;refine⟨[],trivial,rfl,trivial,rfl,?_⟩
 try subst e
 repeat' (first |exact trivial |rfl |exact .inl rfl |exact .inr rfl |exact id |exact zbc |apply And.intro)
 ·show 0+l.length<=_;rw [aF];simp
 ·refine dL ?_;rw [aF];simp
theorem bGF(l:List Zn)(t:Bool)(i:Nat)(z:Zn)(hi:i<l.length)(f:l.length<=100000):aM Tryz.prog 213 [] [.lst 6 t (aJ l),.int .i64 i,.agg z.c] (.lst 6 false (aJ (l.set i z))) []:=by
 refine cF Tryz.func213 ?_;generalize e:l.set i z=q;refine Wk ?_;rw [aF];refine cE (by omega) (by omega) ?_;refine Wk ?_;refine aI (⟨by omega,by omega⟩) ?_;refine Wk ?_;refine aI (by rw [aF];omega) ?_;refine Wk ?_;subst e;refine⟨[],trivial,rfl,trivial,rfl,?_⟩
 try subst e
 repeat' (first |exact trivial |rfl |exact .inl rfl |exact .inr rfl |exact id |exact zbc |apply And.intro)
 ·show 0+l.length<=_;rw [zP,aF];omega
 ·rw [zN,zF];refine(dL (by rw [zP,aF])).trans ?_;rw [aJ,aJ,List.map_set];rfl
theorem aNF {z:Zn} (g:aM7 z)(u:Bool):(decide (z.min< (z.free.length:Int))||(u&&decide (0< (z.free.length:Int))))=tT u z:=by
 have :=g.marks
 cases u with
 |false=>exact Bool.or_false _
 |true=>
  show(decide (z.min< (z.free.length:Int))||(true&&decide (0< (z.free.length:Int))))=decide ((0:Int)< (z.free.length:Int))
  rw [Bool.eq_iff_iff];simp only [zK,zO,decide_eq_true_eq];omega
theorem aY1 {z:Zn} (g:aM7 z) {u:Bool} (h:tT u z=true):0<z.free.length:=by
 have :=g.marks
 cases u with
 |false=> have :z.min< (z.free.length:Int):=of_decide_eq_true h;omega
 |true=> have :(0:Int)< (z.free.length:Int):=of_decide_eq_true h;omega
theorem bN3(l:List Zn)(t:Bool)(p:Int)(u:Bool)(J:fF l):aM Tryz.prog 110 [] [.lst 6 t (aJ l),.int .i64 p,.bool u] (.tup [.lst 6 false (aJ (cS l l p u).1),.int .i64 (cS l l p u).2.1,.int .i64 (cS l l p u).2.2]) []:=by
 have F:=J.len;refine eY (ob0:= []) [.r 57] Tryz.func110 rfl rfl rfl rfl ?_;generalize e:cS l l p u=q;refine cL (aZE l t J) ?_;refine aC (λh1=>?_) (λh1=>?_)<;> try simp only [zC,zA,zE,zD,zG] at h1
 ·have h1:(!aZ l)=true:=by rw [h1];rfl
  simp only [cS,h1,zct] at e;subst e;refine Wk ?_
  try subst e
  exact Lf
 have D:aZ l=true:=by simpa using h1
 have h1:(!aZ l)=false:=by rw [D];rfl
 have hg:=rG D;simp only [cS,h1,zcf] at e;refine Wk ?_;rw [aF];refine aC (λh2=>?_) (λh2=>?_)<;> try simp only [zC,zA,zE,zD,zG] at h2
 ·simp only [h2,zct] at e;subst e;refine Wk ?_
  try subst e
  exact Lf
 simp only [h2,zcf] at e;simp only [zH,zdn] at h2;refine Wk ?_;refine⟨Int,λi=>(-1<=i/\i<l.length)/\fI l u (i+1).toNat=fI l u (p+1).toNat,λi=>⟨[(0,⟨[],true,.lst 6 t (aJ l)⟩),(2,⟨[],true,.bool u⟩),(9,⟨[],true,.int .i64 i⟩)],[],0⟩,λi=>(i+1).toNat,⟨p,⟨by omega,rfl⟩,?_⟩,λi K=>?_⟩
 ·exact Vw []
 obtain⟨⟨M,N⟩,m⟩:=K;refine Wk ?_;refine aC (λE=>?_) (λE=>?_)<;> try simp only [zC,zA,zE,zD,zG] at E
 ·have E:0<=i:=by simpa using E
  obtain⟨n,rfl⟩:∃n:Nat,i=n:=⟨i.toNat,by omega⟩;have B:n<l.length:=by omega
  have f:=hg l[n] (zJ B);have H:=J.free l[n] (zJ B);refine Wk ?_;refine aI (⟨rfl,by omega,by rw [aF];omega⟩) ?_;rw [zF,eV l n B];obtain⟨z,G⟩:∃z,l[n]=z:=⟨_,rfl⟩;rw [G] at f H⊢;have Q:=f.marks;refine Wk ?_;rw [aA];refine Wk ?_;refine aC (λh4=>?_) (λh4=>?_)<;> try simp only [zC,zA,zE,zD,zG] at h4
  ·rw [aNF f u] at h4;have j:0<z.free.length:=aY1 f h4;have C:fI l u (n+1)=some n:=by simp only [fI,aEJ l n B,G,h4,zct]
   rw [<-m,show((n:Int)+1).toNat=n+1 by omega,C] at e;simp only [aEJ l n B,G] at e;refine Wk ?_;refine aI (⟨rfl,by decide,by rw [aA];omega⟩) ?_;rw [show((0:Int)).toNat=0 from rfl,bQ _ 0 j];refine Wk ?_;refine⟨Unit,λ_=>True,λ_=>⟨[(0,⟨[],true,.lst 6 t (aJ l)⟩),(9,⟨[],true,.int .i64 (n:Int)⟩),(10,⟨[],true,.ptr 0 0 0⟩),(11,⟨[],true,.int .i64 z.free[0]⟩)],[(0,.box (aHV z).c)],1⟩,?_,λ_ _=>?_⟩
   ·refine Wk ?_;refine aI (⟨.inl rfl,by decide,by rw [aA];omega,Int.le_refl _⟩) ?_;rw [zF,drop1];refine Wk ?_;rw [aA];have O:(z.free.drop 1).length<=100000:=by simp;omega
    refine cE (by omega) (by omega) ?_;refine Wk ?_;refine⟨(),trivial,?_⟩;refine bV [some 0] rfl rfl ?_ rfl ?_ rfl ?_
    repeat' (first |exact trivial |rfl |exact .inl rfl |exact .inr rfl |exact id |exact zbc |apply And.intro)
    ·show 0+(z.free.drop 1).length<=(aB (z.free.drop 1)).length;rw [aA];omega
    ·exact dL (aA _)
   ·refine cL (bGF l t n (aHV z) B F) ?_;subst e;refine⟨[],trivial,rfl,trivial,rfl,?_⟩
    try subst e
    repeat' (first |exact trivial |rfl |exact .inl rfl |exact .inr rfl |exact id |exact zbc |apply And.intro)
    exact fM _ 0 j
  rw [aNF f u] at h4;have C:fI l u (n+1)=fI l u n:=by simp only [fI,aEJ l n B,G,h4,zcf]
  refine Wk ?_;rw [aN (n:=(n:Int)-1) (by omega) (by omega)];refine⟨(n:Int)-1,⟨by omega,by rw [show((n:Int)-1+1).toNat=n by omega,<-C,<-m,show((n:Int)+1).toNat=n+1 by omega]⟩,?_,by show((n:Int)-1+1).toNat< ((n:Int)+1).toNat;omega⟩;exact Vw []
 have E:i= -1:=by simp at E;omega
 subst E;rw [<-m] at e;have e:(l,(0:Int),(3:Int))=q:=e;subst e;refine Wk ?_
 try subst e
 exact Lf
def aGC(x y:Zn):Bool:=((((x.first != y.first||x.size != y.size)||x.min != y.min)||x.low != y.low)||x.high != y.high)||((x.free.length:Int) != (y.free.length:Int))
def eqZ(x y:Zn):Bool:= !aGC x y&&decide (x.free=y.free)
def oU:List Zn->List Zn->Bool
 | [],[]=>true
 |x::a,y::b=>eqZ x y&&oU a b
 |_,_=>false
theorem aJU:∀(a b:List Zn),a.length≠b.length->oU a b=false
 | [],[],h=>absurd rfl h
 | [],_::_,_=>rfl
 |_::_,[],_=>rfl
 |x::a,y::b,h=>by simp only [oU,aJU a b (by simpa using h),Bool.and_false]
theorem bCL(x y:Zn):eqZ x y=true↔x.first=y.first/\x.size=y.size/\x.min=y.min/\x.low=y.low/\x.high=y.high/\x.free=y.free:=by
 simp only [eqZ,aGC,zM,zE,zH,bne_eq_false_iff_eq,decide_eq_true_eq];constructor
 ·rintro ⟨⟨⟨⟨⟨⟨h1,h2⟩,f⟩,h4⟩,h5⟩,-⟩,e⟩;exact⟨h1,h2,f,h4,h5,e⟩
 ·rintro ⟨h1,h2,f,h4,h5,e⟩;exact⟨⟨⟨⟨⟨⟨h1,h2⟩,f⟩,h4⟩,h5⟩,by rw [e]⟩,e⟩
theorem aJT:∀(a b:List Zn),oU a b=true↔a.length=b.length/\∀i (h:i<a.length) (e:i<b.length),eqZ a[i] b[i]=true
 | [],[]=>by simp [oU]
 | [],_::_=>by simp [oU]
 |_::_,[]=>by simp [oU]
 |x::a,y::b=>by
  simp only [oU,zM,aJT a b,List.length_cons];constructor
  ·rintro ⟨h1,h2,f⟩;refine⟨by omega,λi h e=>?_⟩
   cases i with
   |zero=>exact h1
   |succ i=>exact f i (by omega) (by omega)
  ·rintro ⟨h1,h2⟩;exact⟨h2 0 (by omega) (by omega),by omega,λi h e=>h2 (i+1) (by omega) (by omega)⟩
theorem bS4(a b:List Zn)(J K:Bool)(M:fF a)(N:fF b):aM Tryz.prog 89 [] [.lst 6 J (aJ a),.lst 6 K (aJ b)] (.bool (oU a b)) []:=by
 have Z:=M.len;have aa:=N.len;refine cF Tryz.func89 ?_;generalize B:oU a b=q;refine Wk ?_;rw [aF,aF];refine aC (λh1=>?_) (λh1=>?_)<;> try simp only [zC,zA,zE,zD,zG] at h1
 ·have h1:a.length≠b.length:=by simp at h1;omega
  rw [aJU a b h1] at B;subst B;refine Wk ?_
  try subst B
  exact Lf
 have h1:a.length=b.length:=by simp at h1;omega
 refine Wk ?_;refine⟨Nat,λi=>i<=a.length/\oU (a.drop i) (b.drop i)=q,λi=>⟨[(0,⟨[],true,.lst 6 J (aJ a)⟩),(1,⟨[],true,.lst 6 K (aJ b)⟩),(4,⟨[],true,.bool false⟩),(5,⟨[],true,.int .i64 (i:Int)⟩)],[],0⟩,λi=>a.length-i,⟨0,⟨by omega,B⟩,?_⟩,λi Q=>?_⟩
 ·exact Vw []
 obtain⟨R,f⟩:=Q;refine Wk ?_;rw [aF];refine aC (λh2=>?_) (λh2=>?_)<;> try simp only [zC,zA,zE,zD,zG] at h2
 ·have h2:i<a.length:=by simp at h2;omega
  have m:i<b.length:=by omega
  rw [zI h2,zI m,oU] at f;have F:=M.free a[i] (zJ h2);have G:=N.free b[i] (zJ m);refine Wk ?_;refine⟨λ_=>⟨rfl,by omega,by rw [aF];omega⟩,?_⟩;rw [zF,eV a i h2];refine Wk ?_;refine⟨λ_=>⟨rfl,by omega,by rw [aF];omega⟩,?_⟩;rw [zF,eV b i m];generalize a[i]=x at f F;generalize b[i]=y at f G;refine Wk ?_;rw [aA,aA];refine Wk ?_;refine aC (λz=>?_) (λz=>?_)<;> try simp only [zC,zA,zE,zD,zG] at z
  ·have z:aGC x y=true:=z;rw [eqZ,z] at f;have f:false=q:=f;subst f;refine Wk ?_
   try subst B
   exact Lf
  have z:aGC x y=false:=z;rw [eqZ,z,Bool.not_false,zK] at f;have D:x.free.length=y.free.length:=by simp only [aGC,zH,bne_eq_false_iff_eq] at z;omega
  refine Wk ?_;refine⟨Nat,λk=>k<=x.free.length/\∀j (O:j<k) (h:j<x.free.length) (E:j<y.free.length),x.free[j]=y.free[j],λk=>⟨[(0,⟨[],true,.lst 6 J (aJ a)⟩),(1,⟨[],true,.lst 6 K (aJ b)⟩),(4,⟨[],true,.bool false⟩),(5,⟨[],true,.int .i64 (i:Int)⟩),(6,⟨[],true,.ptr 0 0 0⟩),(7,⟨[],true,.ptr 1 0 0⟩),(8,⟨[],true,.int .i64 (k:Int)⟩)],[(0,.box x.c),(1,.box y.c)],2⟩,λk=>x.free.length-k,⟨0,⟨by omega,λj O=>by omega⟩,?_⟩,λk T=>?_⟩
  ·exact Vq [some _,some _]
  obtain⟨W,C⟩:=T;refine Wk ?_;rw [aA];refine aC (λh4=>?_) (λh4=>?_)<;> try simp only [zC,zA,zE,zD,zG] at h4
  ·have h4:k<x.free.length:=by simp at h4;omega
   refine Wk ?_;refine⟨λ_=>⟨rfl,by omega,by rw [aA];omega⟩,?_⟩;rw [zF,bQ x.free k h4];refine Wk ?_;refine⟨λ_=>⟨rfl,by omega,by rw [aA];omega⟩,?_⟩;rw [zF,bQ y.free k (by omega)];refine Wk ?_;refine aC (λh5=>?_) (λh5=>?_)<;> try simp only [zC,zA,zE,zD,zG] at h5
   ·have h5:x.free[k]≠y.free[k]'(by omega):=by simpa using h5
    have H:x.free≠y.free:=λe=>h5 (by simp [e]);rw [zdf H,Bool.false_and] at f;subst f;refine Wk ?_
    try subst B
    exact Lf
   have h5:x.free[k]=y.free[k]'(by omega):=by simpa using h5
   refine Wk ?_;rw [aN (n:=(k:Int)+1) (by omega) (by omega),show((k:Int)+1)=((k+1:Nat):Int) by omega];refine⟨k+1,⟨by omega,λj O h E=>?_⟩,?_,by show x.free.length- (k+1)<x.free.length-k;omega⟩
   ·by_cases e:j=k
    ·subst e;exact h5
    ·exact C j (by omega) h E
   exact Vw [some 0,some 1]
  have h4:k=x.free.length:=by simp at h4;omega
  have Y:x.free=y.free:=List.ext_getElem D λj h E=>C j (by omega) h E;rw [zdt Y,zK] at f;refine Wk ?_;rw [aN (n:=(i:Int)+1) (by omega) (by omega),show((i:Int)+1)=((i+1:Nat):Int) by omega];refine⟨i+1,⟨by omega,f⟩,?_,by show a.length- (i+1)<a.length-i;omega⟩;exact Vw []
 have h2:i=a.length:=by simp at h2;omega
 rw [h2,zL,h1,zL,oU] at f;subst f;refine Wk ?_
 try subst B
 exact Lf
end Go.Proofs.YtmhapcbjjpadnaaGreat
