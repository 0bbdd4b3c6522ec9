/- Caches. -/
import Derived.Test.YtmhapcbjjpadnaaGreatG1c
set_option linter.all false
set_option maxHeartbeats 8000000
set_option maxRecDepth 40000
open Bool renaming cond_false_right→zA,cond_true_left→zC,not_eq_false'→zD,not_eq_true'→zE,not_not→zG,or_eq_false_iff→zH,true_and→zK,and_eq_true→zM,or_eq_true→zO
open Int renaming toNat_natCast→zF
open List renaming drop_eq_getElem_cons→zI,getElem_mem→zJ,drop_length→zL,length_set→zP
open Nat renaming zero_add→zN
namespace Go.Proofs.YtmhapcbjjpadnaaGreat
open Go Go.Sk Go.RowKit
def aAL:Int->List Zn->Bool
 |_,[]=>true
 |f,z::r=>kI z f&&aAL (lC z) r
def bB(l:List Zn):Bool:=aAL 1 l&&decide (0< (l.length:Int))
structure fL(l:List Zn):Prop where
 len:l.length<=100000
 free:∀z∈l,z.free.length<=100000
theorem fL.at {l:List Zn} (h:fL l) {i:Nat} (hi:i<l.length):(l[i].free.length:Int)<2^62:=by have :=h.free _ (zJ hi);omega
theorem bA4(l:List Zn)(t:Bool)(D:fL l):aM Tryz.prog 211 [] [.lst 6 t (aK l)] (.bool (bB l)) []:=by
 have E:=D.len;refine cK Tryz.func211 ?_;generalize m:bB l=q;refine Wk ?_;rw [aF];refine⟨Nat×Int,λp=>p.1<=l.length/\aAL 1 l=aAL p.2 (l.drop p.1),λp=>⟨[(0,⟨[],true,.lst 6 t (aK l)⟩),(2,⟨[],true,.bool false⟩),(3,⟨[],true,.int .i64 p.2⟩),(6,⟨[],true,.lst 6 t (aK l)⟩),(7,⟨[],true,.int .i64 (l.length:Int)⟩),(8,⟨[],true,.int .i64 (p.1:Int)⟩)],[],0⟩,λp=>l.length-p.1,⟨(0,1),⟨by simp,rfl⟩,?_⟩,λp F=>?_⟩
 ·exact Vw []
 obtain⟨i,f⟩:=p;obtain⟨B,e⟩:=F;simp only at B e;refine Wk ?_;refine aC (λj=>?_) (λj=>?_)<;> try simp only [zC,zA,zE,zD,zG] at j
 ·have j:i<l.length:=by simp at j;omega
  rw [zI j,aAL] at e;have C:=D.at j;refine Wk ?_
  first |refine aG (⟨rfl,by omega,by rw [aF];omega⟩) ?_ |refine kE (λ_=>⟨rfl,by omega,by rw [aF];omega⟩) ?_ |refine⟨λ_=>⟨rfl,by omega,by rw [aF];omega⟩,?_⟩
  rw [zF,fC l i j];generalize l[i]=z at e C;refine cO (bPZ z f C) ?_;refine aC (λh4=>?_) (λh4=>?_)<;> try simp only [zC,zA,zE,zD,zG] at h4
  ·have h4:kI z f=false:=by simpa using h4
   rw [bB,e,h4] at m;have m:q=false:=by rw [<-m];rfl
   subst m;refine Wk ?_
   try subst m
   exact Lf
  have h4:kI z f=true:=by simpa using h4
  rw [h4,zK] at e;refine cO (aTN z) ?_;rw [aP (n:=(i:Int)+1) (by omega) (by omega),show((i:Int)+1)=((i+1:Nat):Int) by omega];refine⟨(i+1,lC z),⟨by show i+1<=_;omega,e⟩,?_,by show l.length- (i+1)<l.length-i;omega⟩;exact Vw []
 have j:i=l.length:=by simp at j;omega
 rw [j,zL,aAL] at e;rw [bB,e,zK] at m;refine Wk ?_;rw [aF];subst m;refine Wk ?_
 try subst m
 exact Lf
def aH0(z:Zn)(f:Int):Bool:=(z.first != f||decide (z.size<1))||decide (IntKind.i64.wrap (65-f)<z.size)
def aV8(z:Zn)(f:Int):Bool:=((((aH0 z f||decide (z.min<0))||decide (z.low<z.min))||decide (z.high<z.low))||decide (z.size<z.high))
theorem bCD(z:Zn)(f:Int)(j:1<=f/\f<=65)(h:aV8 z f=false):jY z f=false/\lH z=false/\lC z=f+z.size/\1<=lC z/\lC z<=65:=by
 simp only [aV8,aH0,zH,zdn,bne_eq_false_iff_eq] at h;rw [aP (by omega) (by omega)] at h;have e:lC z=f+z.size:=by rw [lC,aP (by omega) (by omega)];omega
 refine⟨?_,?_,e,by omega,by omega⟩
 ·simp only [jY,zH,zdn,bne_eq_false_iff_eq];omega
 ·simp only [lH,zH,zdn];omega
theorem aQF(z:Zn)(f:Int)(m:1<=f/\f<=65)(h:aV8 z f=true):kI z f=false:=by
 rw [kI]
 by_cases e:jY z f=true
 ·rw [e];rfl
 ·have e:jY z f=false:=by simpa using e
  have h2:lH z=true:=by
   simp only [aV8,aH0,zO,decide_eq_true_eq,bne_iff_ne] at h;rw [aP (by omega) (by omega)] at h;simp only [jY,zH,zdn,bne_eq_false_iff_eq] at e;have j:lC z=f+z.size:=by rw [lC,aP (by omega) (by omega)];omega
   simp only [lH,zO,decide_eq_true_eq];omega
  rw [e,h2];rfl
theorem bA5(l:List Zn)(t:Bool)(G:fL l):aM Tryz.prog 212 [] [.lst 6 t (aK l)] (.bool (bB l)) []:=by
 have H:=G.len;refine cK Tryz.func212 ?_;generalize j:bB l=q;refine Wk ?_;refine⟨Nat×Int,λp=>p.1<=l.length/\(1<=p.2/\p.2<=65)/\aAL 1 l=aAL p.2 (l.drop p.1),λp=>⟨[(0,⟨[],true,.lst 6 t (aK l)⟩),(2,⟨[],true,.bool false⟩),(3,⟨[],true,.int .i64 p.2⟩),(4,⟨[],true,.int .i64 (p.1:Int)⟩)],[],0⟩,λp=>l.length-p.1,⟨(0,1),⟨by simp,by decide,rfl⟩,?_⟩,λp N=>?_⟩
 ·exact Vw []
 obtain⟨i,f⟩:=p;obtain⟨E,B,e⟩:=N;simp only at E e B;refine Wk ?_;rw [aF];refine aC (λm=>?_) (λm=>?_)<;> try simp only [zC,zA,zE,zD,zG] at m
 ·have m:i<l.length:=by simp at m;omega
  rw [zI m,aAL] at e;have R:=G.at m;refine Wk ?_
  first |refine aG (⟨rfl,by omega,by rw [aF];omega⟩) ?_ |refine kE (λ_=>⟨rfl,by omega,by rw [aF];omega⟩) ?_ |refine⟨λ_=>⟨rfl,by omega,by rw [aF];omega⟩,?_⟩
  rw [zF,fC l i m];generalize l[i]=z at e R;refine Wk ?_;refine aC (λh4=>?_) (λh4=>?_)<;> try simp only [zC,zA,zE,zD,zG] at h4
  ·have h4:aV8 z f=true:=h4;rw [bB,e,aQF z f B h4] at j;have j:q=false:=by rw [<-j];rfl
   subst j;refine Wk ?_
   try subst j
   exact Lf
  have h4:aV8 z f=false:=h4;obtain⟨e1,J,K,M⟩:=bCD z f B h4;have F:kI z f=aA4 z.first (lC z) z.free z.free.length:=by rw [kI,e1,J];rfl
  refine Wk ?_;refine⟨Nat,λk=>k<=z.free.length/\aA4 z.first (lC z) z.free k=true,λk=>⟨[(0,⟨[],true,.lst 6 t (aK l)⟩),(2,⟨[],true,.bool false⟩),(3,⟨[],true,.int .i64 f⟩),(4,⟨[],true,.int .i64 (i:Int)⟩),(5,⟨[],true,.ptr 0 0 0⟩),(6,⟨[],true,.int .i64 (k:Int)⟩)],[(0,.box z.c)],1⟩,λk=>z.free.length-k,⟨0,⟨by omega,rfl⟩,?_⟩,λk O=>?_⟩
  ·exact Vq [some _]
  obtain⟨Q,D⟩:=O;refine Wk ?_;rw [aA];refine aC (λh5=>?_) (λh5=>?_)<;> try simp only [zC,zA,zE,zD,zG] at h5
  ·have h5:k<z.free.length:=by simp at h5;omega
   refine Wk ?_
   first |refine aG (⟨rfl,by omega,by rw [aA];omega⟩) ?_ |refine kE (λ_=>⟨rfl,by omega,by rw [aA];omega⟩) ?_ |refine⟨λ_=>⟨rfl,by omega,by rw [aA];omega⟩,?_⟩
   rw [zF,bS z.free k h5];refine Wk ?_
   first |refine aG (⟨rfl,by omega,by rw [aA];omega⟩) ?_ |refine kE (λ_=>⟨rfl,by omega,by rw [aA];omega⟩) ?_ |refine⟨λ_=>⟨rfl,by omega,by rw [aA];omega⟩,?_⟩
   rw [zF,bS z.free k h5];refine Wk ?_
   first |refine aG (⟨rfl,by omega,by rw [aA];omega⟩) ?_ |refine kE (λ_=>⟨rfl,by omega,by rw [aA];omega⟩) ?_ |refine⟨λ_=>⟨rfl,by omega,by rw [aA];omega⟩,?_⟩
   rw [zF,bS z.free k h5];refine Wk ?_;rw [aC1 k (by omega)]
   first |refine kE (λhg=>⟨rfl,?_,?_⟩) ?_ |refine⟨λhg=>⟨rfl,?_,?_⟩,?_⟩
   ·simp only [zM,decide_eq_true_eq] at hg;rw [rD k (by omega)];omega
   ·rw [rD k (by omega),aA];omega
   rw [bS z.free (k-1) (by omega)];refine Wk ?_;rw [fO,fO];refine aC (λC=>?_) (λC=>?_)<;> try simp only [zC,zA,zE,zD,zG] at C
   ·have C:mG z.first (lC z) z.free k=true:=C;rw [bB,e,F,aN6 _ _ _ _ k h5 C] at j;have j:q=false:=by rw [<-j];rfl
    subst j;refine Wk ?_
    try subst j
    exact Lf
   have C:mG z.first (lC z) z.free k=false:=C;refine Wk ?_;rw [aP (n:=(k:Int)+1) (by omega) (by omega),show((k:Int)+1)=((k+1:Nat):Int) by omega];refine⟨k+1,⟨by omega,by simp only [aA4,D,C];rfl⟩,?_,by show z.free.length- (k+1)<z.free.length-k;omega⟩;exact Vw [some 0]
  have h5:k=z.free.length:=by simp at h5;omega
  rw [F,<-h5,D,zK] at e;refine Wk ?_;rw [aP (n:=f+z.size) (by omega) (by omega),aP (n:=(i:Int)+1) (by omega) (by omega),show((i:Int)+1)=((i+1:Nat):Int) by omega];refine⟨(i+1,lC z),⟨by show i+1<=_;omega,M,e⟩,?_,by show l.length- (i+1)<l.length-i;omega⟩;rw [<-K];exact Vw []
 have m:i=l.length:=by simp at m;omega
 rw [m,zL,aAL] at e;rw [bB,e,zK] at j;refine Wk ?_;rw [aF];subst j;refine Wk ?_
 try subst j
 exact Lf
def gM(z:Zn):Zn:=⟨z.first,z.size,z.min,z.low,z.high,z.free,true⟩
def kZ(l:List Zn)(i:Nat):List Zn:=(l.take i).map gM++l.drop i
theorem aAM(l:List Zn)(i:Nat):(kZ l i).length=l.length:=by simp [kZ];omega
theorem aQL(l:List Zn)(i:Nat)(h:i<l.length):(kZ l i)[i]'(by rw [aAM];exact h)=l[i]:=by
 have e:((l.take i).map gM).length=i:=by simp;omega
 simp only [kZ];rw [List.getElem_append_right (by omega)];simp only [e,Nat.sub_self,List.getElem_drop,Nat.add_zero]
theorem aQM(l:List Zn)(i:Nat)(h:i<l.length):(kZ l i).set i (gM l[i])=kZ l (i+1):=by
 have e:((l.take i).map gM).length=i:=by simp;omega
 simp only [kZ];rw [List.set_append_right _ _ (by omega),e,Nat.sub_self,zI h,List.set_cons_zero,List.take_succ_eq_append_getElem h,List.map_append,List.append_assoc];rfl
theorem aQK(l:List Zn):kZ l l.length=l.map gM:=by simp [kZ]
theorem aNI(l:List Zn):kZ l 0=l:=by simp [kZ]
theorem aLZ(L:List Zn)(i:Nat)(h:i<L.length)(f:List Int)(e:Bool):
 (aK L).set i (aS 6 ((aK L).getD i []) 5 [.lst 1 e (aB f)])=aK (L.set i ⟨(L[i]'h).first,(L[i]'h).size,(L[i]'h).min,(L[i]'h).low,(L[i]'h).high,f,e⟩):=by
 rw [fC L i h,aK,aK,List.map_set];rfl
theorem bCN {e:List (List V)} {n:Nat} {z:List V} (h:e.length=n):(List.replicate n z).take 0++e.take (min e.length n)++(List.replicate n z).drop (0+min e.length n)=e:=by subst h;simp
theorem bH1(l:List Zn)(t:Bool)(j:fL l):aM Tryz.prog 210 [] [.lst 6 t (aK l)] (.sl 0 0 l.length) [.row 6 (aK (l.map gM))]:=by
 have m:=j.len;refine eT (ob0:= []) [.r 26] Tryz.func210 rfl rfl rfl rfl ?_;refine Wk ?_;refine .inr ⟨λ_=>⟨[],_,_,_,aTH (aK l) t (by rw [aF];omega),trivial,rfl,rfl,rfl,?_⟩,(by intro h;cases h)⟩
 rw [aF];refine Wk ?_;refine⟨Nat,λi=>i<=l.length,λi=>⟨[(0,⟨[],true,.lst 6 t (aK l)⟩),(3,⟨[],true,.sl 0 0 l.length⟩),(9,⟨[],true,.int .i64 (l.length:Int)⟩),(10,⟨[],true,.int .i64 (i:Int)⟩)],[(0,.row 6 (aK (kZ l i)))],1⟩,λi=>l.length-i,⟨0,by omega,?_⟩,λi f=>?_⟩
 ·exact Vw [some 0]
  try rw [aNI]
 have f:i<=l.length:=f;refine Wk ?_;refine aC (λe=>?_) (λe=>?_)<;> try simp only [zC,zA,zE,zD,zG] at e
 ·have e:i<l.length:=by simp at e;omega
  have C:=j.free _ (zJ e);refine Wk ?_;refine aG (⟨rfl,by omega,by rw [aF];omega⟩) ?_;rw [zF,fC l i e];generalize B:l[i]=z at C;refine Wk ?_;rw [aA];refine Wk ?_;refine aU8 (by omega) (by omega) (by omega) (by omega) ?_;rw [zF];refine Wk ?_
  refine⟨Unit,λ_=>True,λ_=>⟨[(0,⟨[],true,.lst 6 t (aK l)⟩),(3,⟨[],true,.sl 0 0 l.length⟩),(4,⟨[],true,.int .i64 (i:Int)⟩),(5,⟨[],true,.lst 1 true (aB z.free)⟩),(9,⟨[],true,.int .i64 (l.length:Int)⟩),(10,⟨[],true,.int .i64 (i:Int)⟩)],[(0,.row 6 (aK (kZ l i)))],1⟩,?_,λ_ _=>?_⟩
  ·refine Wk ?_;refine aG (⟨rfl,by omega,by rw [aF];omega⟩) ?_;rw [zF,fC l i e,B];refine Wk ?_;refine aG (by simp) ?_;rw [bCN (aA _)];refine Wk ?_;refine⟨(),trivial,?_⟩;refine bU [some 0] rfl rfl ?_ rfl ?_ rfl ?_
   repeat' (first |exact trivial |rfl |exact .inl rfl |exact .inr rfl |exact id |exact zbc |apply And.intro)
   ·exact λ_=>rfl
   ·show 0+z.free.length<=(aB z.free).length;rw [aA];omega
   ·exact dB (aA _)
  ·refine Wk ?_;refine aG (⟨by omega,by omega⟩) ?_;refine Wk ?_;refine aG (by rw [aF,aAM];omega) ?_;refine Wk ?_;rw [zF,zN,aP (n:=(i:Int)+1) (by omega) (by omega),show((i:Int)+1)=((i+1:Nat):Int) by omega];refine⟨i+1,by show i+1<=_;omega,?_,by show l.length- (i+1)<l.length-i;omega⟩;refine bU [some 0] rfl rfl ?_ rfl ?_ rfl ?_
   repeat' (first |exact trivial |rfl |exact .inl rfl |exact .inr rfl |exact id |exact zbc |apply And.intro)
   refine(aLZ (kZ l i) i (by rw [aAM];exact e) z.free true).trans ?_;rw [aQL l i e,<-aQM l i e,B];rfl
 have e:i=l.length:=by simp at e;omega
 subst e;rw [aQK];refine Wk ?_;exact⟨[some 0],Cl,rfl,Cl,rfl,Cl⟩
structure aMZ(z:Zn):Prop where
 first :1<=z.first
 size:1<=z.size/\z.size<=64
 stop:z.first+z.size<=65
 marks:0<=z.min/\z.min<=z.low/\z.low<=z.high/\z.high<=z.size
 asc:aA4 z.first (z.first+z.size) z.free z.free.length=true
theorem sL {z:Zn} {f:Int} (m:1<=f/\f<=65)(h:kI z f=true):aMZ z/\z.first=f/\lC z=f+z.size:=by
 rw [kI] at h
 cases e:jY z f with
 |true=>rw [e] at h;cases h
 |false=>
  cases h2:lH z with
  |true=>rw [e,h2] at h;cases h
  |false=>
   rw [e,h2] at h;simp only [zcf] at h;simp only [jY,zH,zdn,bne_eq_false_iff_eq] at e;simp only [lH,zH,zdn] at h2;have j:lC z=z.first+z.size:=by rw [lC,aP (by omega) (by omega)]
   rw [j] at h e;exact⟨⟨by omega,by omega,by omega,by omega,h⟩,by omega,by omega⟩
theorem aJ7:∀(l:List Zn) (f:Int),1<=f/\f<=65->aAL f l=true->∀z∈l,aMZ z
 | [],_,_,_=>by simp
 |z::r,f,j,h=>by
  simp only [aAL,zM] at h;obtain⟨g,m,h2⟩:=sL j h.1;have :=g.stop;have :=g.size;intro y e;rcases List.mem_cons.1 e with rfl |e
  ·exact g
  ·exact aJ7 r _ (by omega) h.2 y e
theorem rO {l:List Zn} (h:bB l=true):∀z∈l,aMZ z:=by simp only [bB,zM] at h;exact aJ7 l 1 (by decide) h.1
def mC(g:Zn->Int):List Zn->Int
 | []=>0
 |z::r=>g z+mC g r
def oX(z:Zn):Int:=z.free.length
def aJH(l:List Zn):Int:=bif bB l then mC oX l else 0
theorem aYN {l:List Zn} (e:fL l) {i:Nat} (h:i<l.length):0<=oX l[i]/\oX l[i]<=100000:=by have :=e.free _ (zJ h);unfold oX;omega
theorem bOG(l:List Zn)(t:Bool)(hl:fL l):aM Tryz.prog 114 [] [.lst 6 t (aK l)] (.int .i64 (aJH l)) []:=by
 have hlen:=hl.len;refine cK Tryz.func114 ?_;generalize hk:aJH l=q;refine cO (bA5 l t hl) ?_;refine aC (λh1=>?_) (λh1=>?_)
 case' refine_2=>
  simp only [aJH,h1,zcf] at hk;subst hk;refine Wk ?_
  try subst hk
  exact Lf
 simp only [aJH,h1,zct] at hk;refine Wk ?_;refine⟨Nat×Int,λp=>p.1<=l.length/\p.2+mC oX (l.drop p.1)=q/\0<=p.2/\p.2<=100000*(p.1:Int),λp=>⟨[(0,⟨[],true,.lst 6 t (aK l)⟩),(2,⟨[],true,.int .i64 0⟩),(3,⟨[],true,.int .i64 p.2⟩),(4,⟨[],true,.int .i64 (p.1:Int)⟩)],[],0⟩,λp=>l.length-p.1,⟨(0,0),⟨by simp,by simpa using hk,by simp,by simp⟩,?_⟩,λp hI=>?_⟩
 ·exact Vw []
 obtain⟨i,s⟩:=p;obtain⟨hI1,hI2,hI3,hI4⟩:=hI;simp only at hI1 hI2 hI3 hI4;refine Wk ?_;rw [aF];refine aC (λh3=>?_) (λh3=>?_)<;> try simp only [zC,zA,zE,zD,zG] at h3
 ·have h3:i<l.length:=by simp at h3;omega
  have hf:=aYN hl h3;have hst:mC oX (l.drop i)=oX l[i]+mC oX (l.drop (i+1)):=by rw [zI h3];rfl
  rw [hst] at hI2;refine Wk ?_;refine aG (⟨rfl,by omega,by rw [aF];omega⟩) ?_;rw [zF,fC l i h3];generalize l[i]=z at hI2 hf;refine Wk ?_;rw [aA];unfold oX at hI2 hf;rw [aP (n:=s+(z.free.length:Int)) (by omega) (by omega),aP (n:=(i:Int)+1) (by omega) (by omega),show((i:Int)+1)=((i+1:Nat):Int) by omega]
  refine⟨(i+1,s+(z.free.length:Int)),⟨by show i+1<=_;omega,by show s+(z.free.length:Int)+mC oX (l.drop (i+1))=q;unfold oX;omega,by show 0<=s+(z.free.length:Int);omega,by show s+(z.free.length:Int)<=100000*((i+1:Nat):Int);omega⟩,?_,by show l.length- (i+1)<l.length-i;omega⟩;exact Vw []
 have h3:i=l.length:=by simp at h3;omega
 rw [h3,zL,mC,Int.add_zero] at hI2;subst hI2;refine Wk ?_
 try subst hk
 exact Lf
def inG(f:Int)(z:Zn):Bool:=bif decide (z.first<=f) then decide (f<lC z) else false
theorem bQB(z:Zn)(f:Int):aM Tryz.prog 318 [] [.agg z.c,.rp 1 [.int .i64 f] 0] (.bool (inG f z)) []:=by refine cK Tryz.func318 ?_;refine cO (aTN z) ?_;exact Lf
theorem call58:jL Tryz.prog 318:=⟨_,Tryz.func318,rfl,rfl⟩
def aHF(u:Bool)(z:Zn):Int:=bif u then 0 else z.min
def uC(u:Bool)(z:Zn):Bool:=decide (aHF u z< (z.free.length:Int))
def dW(l:List Zn)(u:Bool):Nat->Option Nat
 |0=>none
 |i+1=>bif uC u (l.getD i gK) then some i else dW l u i
def aIH(z:Zn):Zn:=⟨z.first,z.size,z.min,z.low,z.high,z.free.drop 1,false⟩
def bZ(base l:List Zn)(p:Int)(u:Bool):List Zn×Int×Int:=
 bif !bB l then(base,0,1) else bif decide (p<0)||decide ((l.length:Int)<=p) then(base,0,2) else
 match dW l u (p+1).toNat with
 |some i=>(base.set i (aIH (l.getD i gK)),(l.getD i gK).free.getD 0 0,0)
 |none=>(base,0,3)
theorem aF8(l:List Zn)(i:Nat)(h:i<l.length):l.getD i gK=l[i]:=by simp [List.getD_eq_getElem?_getD,h]
theorem aJI(l:List Zn)(i:Nat)(h:i<l.length):(aK (l.map gM)).getD i []=(gM l[i]).c:=by rw [fC _ i (by simpa using h)];simp
theorem drop1(l:List Int):((aB l).take (aB l).length).drop (1:Int).toNat=aB (l.drop 1):=by rw [List.take_length,aB,aB,List.map_drop];rfl
theorem bGN(l:List Zn)(t:Bool)(p:Int)(u:Bool)(E:fL l):aM Tryz.prog 109 [] [.lst 6 t (aK l),.int .i64 p,.bool u] (.tup [.lst 6 false (aK (bZ (l.map gM) l p u).1),.int .i64 (bZ (l.map gM) l p u).2.1,.int .i64 (bZ (l.map gM) l p u).2.2]) []:=by
 have G:=E.len;refine cK Tryz.func109 ?_;generalize e:bZ (l.map gM) l p u=q;refine Wk ?_;refine .inr ⟨λ_=>⟨[],_,_,_,bH1 l t E,trivial,rfl,rfl,rfl,?_⟩,(by intro h;cases h)⟩
 refine cO (bA4 l t E) ?_;refine aC (λB=>?_) (λB=>?_)<;> try simp only [zC,zA,zE,zD,zG] at B
 ·have B:(!bB l)=true:=by rw [B];rfl
  simp only [bZ,B,zct] at e;subst e;refine Wk ?_;refine⟨[],trivial,rfl,trivial,rfl,?_⟩
  try subst e
  repeat' (first |exact trivial |rfl |exact .inl rfl |exact .inr rfl |exact id |exact zbc |apply And.intro)
  ·show 0+l.length<=_;rw [aF];simp
  ·refine dB ?_;rw [aF];simp
 have C:bB l=true:=by simpa using B
 have B:(!bB l)=false:=by rw [C];rfl
 have hg:=rO C;simp only [bZ,B,zcf] at e;refine Wk ?_;rw [aF];refine aC (λh2=>?_) (λh2=>?_)<;> try simp only [zC,zA,zE,zD,zG] at h2
 ·simp only [h2,zct] at e;subst e;refine Wk ?_;refine⟨[],trivial,rfl,trivial,rfl,?_⟩
  try subst e
  repeat' (first |exact trivial |rfl |exact .inl rfl |exact .inr rfl |exact id |exact zbc |apply And.intro)
  ·show 0+l.length<=_;rw [aF];simp
  ·refine dB ?_;rw [aF];simp
 simp only [h2,zcf] at e;simp only [zH,zdn] at h2;refine Wk ?_;refine⟨Int,λi=>(-1<=i/\i<l.length)/\dW l u (i+1).toNat=dW l u (p+1).toNat,λi=>⟨[(2,⟨[],true,.bool u⟩),(9,⟨[],true,.sl 0 0 l.length⟩),(10,⟨[],true,.int .i64 i⟩)],[(0,.row 6 (aK (l.map gM)))],1⟩,λi=>(i+1).toNat,⟨p,⟨by omega,rfl⟩,?_⟩,λi H=>?_⟩
 ·exact Vq [some _]
 obtain⟨⟨J,K⟩,m⟩:=H;refine Wk ?_;refine aC (λD=>?_) (λD=>?_)<;> try simp only [zC,zA,zE,zD,zG] at D
 ·have D:0<=i:=by simpa using D
  obtain⟨n,rfl⟩:∃n:Nat,i=n:=⟨i.toNat,by omega⟩;have f:n<l.length:=by omega
  refine Wk ?_;refine aG (⟨by omega,by omega⟩) ?_;refine Wk ?_;refine aG (by rw [aF];simp;omega) ?_;refine Wk ?_;rw [zN,zF,aJI l n f];refine Wk ?_;refine aC (λF=>?_) (λF=>?_)<;> try simp only [zC,zA,zE,zD,zG] at F
  all_goals
   refine Wk ?_;refine aG (⟨by omega,by omega⟩) ?_;refine Wk ?_;refine aG (by rw [aF];simp;omega) ?_;refine Wk ?_;rw [zN,zF,aJI l n f];refine Wk ?_;rw [aA];refine aC (λh4=>?_) (λh4=>?_)<;> try simp only [zC,zA,zE,zD,zG] at h4
   ·have h4:uC u l[n]=true:=by rw [uC,aHF,F];exact h4
    have j:0<l[n].free.length:=by have :=(hg l[n] (zJ f)).marks;simp only [uC,aHF,F,decide_eq_true_eq,zct,zcf] at h4;omega
    have z:dW l u (n+1)=some n:=by simp only [dW,aF8 l n f,h4,zct]
    rw [<-m,show((n:Int)+1).toNat=n+1 by omega,z] at e;simp only [aF8 l n f] at e;refine Wk ?_;refine aG (⟨by omega,by omega⟩) ?_;refine Wk ?_;refine aG (by rw [aF];simp;omega) ?_;refine Wk ?_;rw [zN,zF,aJI l n f];refine Wk ?_;refine aG (⟨rfl,by decide,by rw [aA];show(0:Int)< (l[n].free.length:Int);omega⟩) ?_;rw [show((0:Int)).toNat=0 from rfl,bS _ 0 (by exact j)];refine Wk ?_;refine aG (⟨by omega,by omega⟩) ?_;refine Wk ?_;refine aG (by rw [aF];simp;omega) ?_;refine Wk ?_
    rw [zN,zF,aJI l n f];refine Wk ?_;refine aG (⟨.inl rfl,by decide,by rw [aA];show(1:Int)<=(l[n].free.length:Int);omega,Int.le_refl _⟩) ?_;rw [zF,drop1];refine Wk ?_;refine aG (⟨by omega,by omega⟩) ?_;refine Wk ?_;refine aG (by rw [aF];simp;omega) ?_;refine Wk ?_;subst e;refine⟨[],trivial,rfl,trivial,rfl,?_⟩
    try subst e
    repeat' (first |exact trivial |rfl |exact .inl rfl |exact .inr rfl |exact id |exact zbc |apply And.intro)
    ·show 0+l.length<=_;rw [zP,aF];simp
    ·rw [zN,zF];refine(congrArg (λr=>List.take l.length (List.drop 0 r)) (aLZ (l.map gM) n (by simp;omega) (l[n].free.drop 1) false)).trans ?_;refine(dB (by rw [aF];simp)).trans ?_;simp only [List.getElem_map];rfl
    ·exact fO _ 0 j
   have h4:uC u l[n]=false:=by rw [uC,aHF,F];exact h4
   have z:dW l u (n+1)=dW l u n:=by simp only [dW,aF8 l n f,h4,zcf]
   refine Wk ?_;rw [aP (n:=(n:Int)-1) (by omega) (by omega)];refine⟨(n:Int)-1,⟨by omega,by rw [show((n:Int)-1+1).toNat=n by omega,<-z,<-m,show((n:Int)+1).toNat=n+1 by omega]⟩,?_,by show((n:Int)-1+1).toNat< ((n:Int)+1).toNat;omega⟩;exact Vw [some 0]
 have D:i= -1:=by simp at D;omega
 subst D;rw [<-m] at e;have e:(l.map gM,(0:Int),(3:Int))=q:=e;subst e;refine Wk ?_;refine⟨[],trivial,rfl,trivial,rfl,?_⟩
 try subst e
 repeat' (first |exact trivial |rfl |exact .inl rfl |exact .inr rfl |exact id |exact zbc |apply And.intro)
 ·show 0+l.length<=_;rw [aF];simp
 ·refine dB ?_;rw [aF];simp
theorem bH2(l:List Zn)(t:Bool)(i:Nat)(z:Zn)(hi:i<l.length)(f:l.length<=100000):aM Tryz.prog 213 [] [.lst 6 t (aK l),.int .i64 i,.agg z.c] (.lst 6 false (aK (l.set i z))) []:=by
 refine cK Tryz.func213 ?_;generalize e:l.set i z=q;refine Wk ?_;rw [aF];refine cA (by omega) (by omega) ?_;refine Wk ?_;refine aG (⟨by omega,by omega⟩) ?_;refine Wk ?_;refine aG (by rw [aF];omega) ?_;refine Wk ?_;subst e;refine⟨[],trivial,rfl,trivial,rfl,?_⟩
 try subst e
 repeat' (first |exact trivial |rfl |exact .inl rfl |exact .inr rfl |exact id |exact zbc |apply And.intro)
 ·show 0+l.length<=_;rw [zP,aF];omega
 ·rw [zN,zF];refine(dB (by rw [zP,aF])).trans ?_;rw [aK,aK,List.map_set];rfl
theorem aO9 {z:Zn} (g:aMZ z)(u:Bool):(decide (z.min< (z.free.length:Int))||(u&&decide (0< (z.free.length:Int))))=uC u z:=by
 have :=g.marks
 cases u with
 |false=>exact Bool.or_false _
 |true=>
  show(decide (z.min< (z.free.length:Int))||(true&&decide (0< (z.free.length:Int))))=decide ((0:Int)< (z.free.length:Int))
  rw [Bool.eq_iff_iff];simp only [zK,zO,decide_eq_true_eq];omega
theorem aYV {z:Zn} (g:aMZ z) {u:Bool} (h:uC u z=true):0<z.free.length:=by
 have :=g.marks
 cases u with
 |false=> have :z.min< (z.free.length:Int):=of_decide_eq_true h;omega
 |true=> have :(0:Int)< (z.free.length:Int):=of_decide_eq_true h;omega
theorem bGO(l:List Zn)(t:Bool)(p:Int)(u:Bool)(K:fL l):aM Tryz.prog 110 [] [.lst 6 t (aK l),.int .i64 p,.bool u] (.tup [.lst 6 false (aK (bZ l l p u).1),.int .i64 (bZ l l p u).2.1,.int .i64 (bZ l l p u).2.2]) []:=by
 have G:=K.len;refine eT (ob0:= []) [.r 57] Tryz.func110 rfl rfl rfl rfl ?_;generalize e:bZ l l p u=q;refine cO (bA5 l t K) ?_;refine aC (λD=>?_) (λD=>?_)<;> try simp only [zC,zA,zE,zD,zG] at D
 ·have D:(!bB l)=true:=by rw [D];rfl
  simp only [bZ,D,zct] at e;subst e;refine Wk ?_
  try subst e
  exact Lf
 have E:bB l=true:=by simpa using D
 have D:(!bB l)=false:=by rw [E];rfl
 have hg:=rO E;simp only [bZ,D,zcf] at e;refine Wk ?_;rw [aF];refine aC (λh2=>?_) (λh2=>?_)<;> try simp only [zC,zA,zE,zD,zG] at h2
 ·simp only [h2,zct] at e;subst e;refine Wk ?_
  try subst e
  exact Lf
 simp only [h2,zcf] at e;simp only [zH,zdn] at h2;refine Wk ?_;refine⟨Int,λi=>(-1<=i/\i<l.length)/\dW l u (i+1).toNat=dW l u (p+1).toNat,λi=>⟨[(0,⟨[],true,.lst 6 t (aK l)⟩),(2,⟨[],true,.bool u⟩),(9,⟨[],true,.int .i64 i⟩)],[],0⟩,λi=>(i+1).toNat,⟨p,⟨by omega,rfl⟩,?_⟩,λi M=>?_⟩
 ·exact Vw []
 obtain⟨⟨N,O⟩,m⟩:=M;refine Wk ?_;refine aC (λF=>?_) (λF=>?_)<;> try simp only [zC,zA,zE,zD,zG] at F
 ·have F:0<=i:=by simpa using F
  obtain⟨n,rfl⟩:∃n:Nat,i=n:=⟨i.toNat,by omega⟩;have B:n<l.length:=by omega
  have f:=hg l[n] (zJ B);have J:=K.free l[n] (zJ B);refine Wk ?_;refine aG (⟨rfl,by omega,by rw [aF];omega⟩) ?_;rw [zF,fC l n B];obtain⟨z,H⟩:∃z,l[n]=z:=⟨_,rfl⟩;rw [H] at f J⊢;have R:=f.marks;refine Wk ?_;rw [aA];refine Wk ?_;refine aC (λh4=>?_) (λh4=>?_)<;> try simp only [zC,zA,zE,zD,zG] at h4
  ·rw [aO9 f u] at h4;have j:0<z.free.length:=aYV f h4;have C:dW l u (n+1)=some n:=by simp only [dW,aF8 l n B,H,h4,zct]
   rw [<-m,show((n:Int)+1).toNat=n+1 by omega,C] at e;simp only [aF8 l n B,H] at e;refine Wk ?_;refine aG (⟨rfl,by decide,by rw [aA];omega⟩) ?_;rw [show((0:Int)).toNat=0 from rfl,bS _ 0 j];refine Wk ?_;refine⟨Unit,λ_=>True,λ_=>⟨[(0,⟨[],true,.lst 6 t (aK l)⟩),(9,⟨[],true,.int .i64 (n:Int)⟩),(10,⟨[],true,.ptr 0 0 0⟩),(11,⟨[],true,.int .i64 z.free[0]⟩)],[(0,.box (aIH z).c)],1⟩,?_,λ_ _=>?_⟩
   ·refine Wk ?_;refine aG (⟨.inl rfl,by decide,by rw [aA];omega,Int.le_refl _⟩) ?_;rw [zF,drop1];refine Wk ?_;rw [aA];have Q:(z.free.drop 1).length<=100000:=by simp;omega
    refine cA (by omega) (by omega) ?_;refine Wk ?_;refine⟨(),trivial,?_⟩;refine bU [some 0] rfl rfl ?_ rfl ?_ rfl ?_
    repeat' (first |exact trivial |rfl |exact .inl rfl |exact .inr rfl |exact id |exact zbc |apply And.intro)
    ·show 0+(z.free.drop 1).length<=(aB (z.free.drop 1)).length;rw [aA];omega
    ·exact dB (aA _)
   ·refine cO (bH2 l t n (aIH z) B G) ?_;subst e;refine⟨[],trivial,rfl,trivial,rfl,?_⟩
    try subst e
    repeat' (first |exact trivial |rfl |exact .inl rfl |exact .inr rfl |exact id |exact zbc |apply And.intro)
    exact fO _ 0 j
  rw [aO9 f u] at h4;have C:dW l u (n+1)=dW l u n:=by simp only [dW,aF8 l n B,H,h4,zcf]
  refine Wk ?_;rw [aP (n:=(n:Int)-1) (by omega) (by omega)];refine⟨(n:Int)-1,⟨by omega,by rw [show((n:Int)-1+1).toNat=n by omega,<-C,<-m,show((n:Int)+1).toNat=n+1 by omega]⟩,?_,by show((n:Int)-1+1).toNat< ((n:Int)+1).toNat;omega⟩;exact Vw []
 have F:i= -1:=by simp at F;omega
 subst F;rw [<-m] at e;have e:(l,(0:Int),(3:Int))=q:=e;subst e;refine Wk ?_
 try subst e
 exact Lf
def aH1(x y:Zn):Bool:=((((x.first != y.first||x.size != y.size)||x.min != y.min)||x.low != y.low)||x.high != y.high)||((x.free.length:Int) != (y.free.length:Int))
def eqZ(x y:Zn):Bool:= !aH1 x y&&decide (x.free=y.free)
def pJ:List Zn->List Zn->Bool
 | [],[]=>true
 |x::a,y::b=>eqZ x y&&pJ a b
 |_,_=>false
theorem aKC:∀(a b:List Zn),a.length≠b.length->pJ a b=false
 | [],[],h=>absurd rfl h
 | [],_::_,_=>rfl
 |_::_,[],_=>rfl
 |x::a,y::b,h=>by simp only [pJ,aKC a b (by simpa using h),Bool.and_false]
theorem bCZ(x y:Zn):eqZ x y=true↔x.first=y.first/\x.size=y.size/\x.min=y.min/\x.low=y.low/\x.high=y.high/\x.free=y.free:=by
 simp only [eqZ,aH1,zM,zE,zH,bne_eq_false_iff_eq,decide_eq_true_eq];constructor
 ·rintro ⟨⟨⟨⟨⟨⟨f,h2⟩,j⟩,h4⟩,h5⟩,-⟩,e⟩;exact⟨f,h2,j,h4,h5,e⟩
 ·rintro ⟨f,h2,j,h4,h5,e⟩;exact⟨⟨⟨⟨⟨⟨f,h2⟩,j⟩,h4⟩,h5⟩,by rw [e]⟩,e⟩
theorem aKB:∀(a b:List Zn),pJ a b=true↔a.length=b.length/\∀i (h:i<a.length) (e:i<b.length),eqZ a[i] b[i]=true
 | [],[]=>by simp [pJ]
 | [],_::_=>by simp [pJ]
 |_::_,[]=>by simp [pJ]
 |x::a,y::b=>by
  simp only [pJ,zM,aKB a b,List.length_cons];constructor
  ·rintro ⟨f,h2,j⟩;refine⟨by omega,λi h e=>?_⟩
   cases i with
   |zero=>exact f
   |succ i=>exact j i (by omega) (by omega)
  ·rintro ⟨f,h2⟩;exact⟨h2 0 (by omega) (by omega),by omega,λi h e=>h2 (i+1) (by omega) (by omega)⟩
theorem bTK(a b:List Zn)(K M:Bool)(N:fL a)(O:fL b):aM Tryz.prog 89 [] [.lst 6 K (aK a),.lst 6 M (aK b)] (.bool (pJ a b)) []:=by
 have aa:=N.len;have ab:=O.len;refine cK Tryz.func89 ?_;generalize B:pJ a b=q;refine Wk ?_;rw [aF,aF];refine aC (λC=>?_) (λC=>?_)<;> try simp only [zC,zA,zE,zD,zG] at C
 ·have C:a.length≠b.length:=by simp at C;omega
  rw [aKC a b C] at B;subst B;refine Wk ?_
  try subst B
  exact Lf
 have C:a.length=b.length:=by simp at C;omega
 refine Wk ?_;refine⟨Nat,λi=>i<=a.length/\pJ (a.drop i) (b.drop i)=q,λi=>⟨[(0,⟨[],true,.lst 6 K (aK a)⟩),(1,⟨[],true,.lst 6 M (aK b)⟩),(4,⟨[],true,.bool false⟩),(5,⟨[],true,.int .i64 (i:Int)⟩)],[],0⟩,λi=>a.length-i,⟨0,⟨by omega,B⟩,?_⟩,λi R=>?_⟩
 ·exact Vw []
 obtain⟨T,f⟩:=R;refine Wk ?_;rw [aF];refine aC (λh2=>?_) (λh2=>?_)<;> try simp only [zC,zA,zE,zD,zG] at h2
 ·have h2:i<a.length:=by simp at h2;omega
  have m:i<b.length:=by omega
  rw [zI h2,zI m,pJ] at f;have G:=N.free a[i] (zJ h2);have H:=O.free b[i] (zJ m);refine Wk ?_;refine⟨λ_=>⟨rfl,by omega,by rw [aF];omega⟩,?_⟩;rw [zF,fC a i h2];refine Wk ?_;refine⟨λ_=>⟨rfl,by omega,by rw [aF];omega⟩,?_⟩;rw [zF,fC b i m];generalize a[i]=x at f G;generalize b[i]=y at f H;refine Wk ?_;rw [aA,aA];refine Wk ?_;refine aC (λz=>?_) (λz=>?_)<;> try simp only [zC,zA,zE,zD,zG] at z
  ·have z:aH1 x y=true:=z;rw [eqZ,z] at f;have f:false=q:=f;subst f;refine Wk ?_
   try subst B
   exact Lf
  have z:aH1 x y=false:=z;rw [eqZ,z,Bool.not_false,zK] at f;have E:x.free.length=y.free.length:=by simp only [aH1,zH,bne_eq_false_iff_eq] at z;omega
  refine Wk ?_;refine⟨Nat,λk=>k<=x.free.length/\∀j (Q:j<k) (h:j<x.free.length) (F:j<y.free.length),x.free[j]=y.free[j],λk=>⟨[(0,⟨[],true,.lst 6 K (aK a)⟩),(1,⟨[],true,.lst 6 M (aK b)⟩),(4,⟨[],true,.bool false⟩),(5,⟨[],true,.int .i64 (i:Int)⟩),(6,⟨[],true,.ptr 0 0 0⟩),(7,⟨[],true,.ptr 1 0 0⟩),(8,⟨[],true,.int .i64 (k:Int)⟩)],[(0,.box x.c),(1,.box y.c)],2⟩,λk=>x.free.length-k,⟨0,⟨by omega,λj Q=>by omega⟩,?_⟩,λk W=>?_⟩
  ·exact Vq [some _,some _]
  obtain⟨Y,D⟩:=W;refine Wk ?_;rw [aA];refine aC (λh4=>?_) (λh4=>?_)<;> try simp only [zC,zA,zE,zD,zG] at h4
  ·have h4:k<x.free.length:=by simp at h4;omega
   refine Wk ?_;refine⟨λ_=>⟨rfl,by omega,by rw [aA];omega⟩,?_⟩;rw [zF,bS x.free k h4];refine Wk ?_;refine⟨λ_=>⟨rfl,by omega,by rw [aA];omega⟩,?_⟩;rw [zF,bS y.free k (by omega)];refine Wk ?_;refine aC (λh5=>?_) (λh5=>?_)<;> try simp only [zC,zA,zE,zD,zG] at h5
   ·have h5:x.free[k]≠y.free[k]'(by omega):=by simpa using h5
    have J:x.free≠y.free:=λe=>h5 (by simp [e]);rw [zdf J,Bool.false_and] at f;subst f;refine Wk ?_
    try subst B
    exact Lf
   have h5:x.free[k]=y.free[k]'(by omega):=by simpa using h5
   refine Wk ?_;rw [aP (n:=(k:Int)+1) (by omega) (by omega),show((k:Int)+1)=((k+1:Nat):Int) by omega];refine⟨k+1,⟨by omega,λj Q h F=>?_⟩,?_,by show x.free.length- (k+1)<x.free.length-k;omega⟩
   ·by_cases e:j=k
    ·subst e;exact h5
    ·exact D j (by omega) h F
   exact Vw [some 0,some 1]
  have h4:k=x.free.length:=by simp at h4;omega
  have Z:x.free=y.free:=List.ext_getElem E λj h F=>D j (by omega) h F;rw [zdt Z,zK] at f;refine Wk ?_;rw [aP (n:=(i:Int)+1) (by omega) (by omega),show((i:Int)+1)=((i+1:Nat):Int) by omega];refine⟨i+1,⟨by omega,f⟩,?_,by show a.length- (i+1)<a.length-i;omega⟩;exact Vw []
 have h2:i=a.length:=by simp at h2;omega
 rw [h2,zL,C,zL,pJ] at f;subst f;refine Wk ?_
 try subst B
 exact Lf
end Go.Proofs.YtmhapcbjjpadnaaGreat
