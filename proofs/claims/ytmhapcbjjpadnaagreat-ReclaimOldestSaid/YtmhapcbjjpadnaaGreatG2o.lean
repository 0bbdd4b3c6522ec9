/- Caches. -/
import Derived.Test.YtmhapcbjjpadnaaGreatG1o
set_option linter.all false
set_option maxHeartbeats 8000000
set_option maxRecDepth 40000
open Bool renaming cond_false_right→zA,cond_true_left→zC,not_eq_false'→zD,not_eq_true'→zE,not_not→zG,or_eq_false_iff→zH,true_and→zK,and_eq_true→zM,or_eq_true→zO
open Int renaming toNat_natCast→zF
open List renaming drop_eq_getElem_cons→zI,getElem_mem→zJ,drop_length→zL,length_set→zP
open Nat renaming zero_add→zN
namespace Go.Proofs.YtmhapcbjjpadnaaGreat
open Go Go.Sk Go.RowKit
def vG:Int->List Zn->Bool
 |_,[]=>true
 |f,z::r=>jP z f&&vG (kL z) r
def aX(l:List Zn):Bool:=vG 1 l&&decide (0< (l.length:Int))
structure fO(l:List Zn):Prop where
 len:l.length<=100000
 free:∀z∈l,z.free.length<=100000
theorem fO.at {l:List Zn} (h:fO l) {i:Nat} (hi:i<l.length):(l[i].free.length:Int)<2^62:=by have :=h.free _ (zJ hi);omega
theorem aXI(l:List Zn)(t:Bool)(D:fO l):aN Tryz.prog 211 [] [.lst 6 t (aJ l)] (.bool (aX l)) []:=by
 have E:=D.len;refine cG Tryz.func211 ?_;generalize m:aX l=q;refine Wk ?_;rw [aE];refine⟨Nat×Int,λp=>p.1<=l.length/\vG 1 l=vG p.2 (l.drop p.1),λp=>⟨[(0,⟨[],true,.lst 6 t (aJ l)⟩),(2,⟨[],true,.bool false⟩),(3,⟨[],true,.int .i64 p.2⟩),(6,⟨[],true,.lst 6 t (aJ l)⟩),(7,⟨[],true,.int .i64 (l.length:Int)⟩),(8,⟨[],true,.int .i64 (p.1:Int)⟩)],[],0⟩,λp=>l.length-p.1,⟨(0,1),⟨by simp,rfl⟩,?_⟩,λp F=>?_⟩
 ·exact Vw []
 obtain⟨i,f⟩:=p;obtain⟨B,e⟩:=F;simp only at B e;refine Wk ?_;refine aC (λj=>?_) (λj=>?_)<;> try simp only [zC,zA,zE,zD,zG] at j
 ·have j:i<l.length:=by simp at j;omega
  rw [zI j,vG] at e;have C:=D.at j;refine Wk ?_
  first |refine aG (⟨rfl,by omega,by rw [aE];omega⟩) ?_ |refine iE (λ_=>⟨rfl,by omega,by rw [aE];omega⟩) ?_ |refine⟨λ_=>⟨rfl,by omega,by rw [aE];omega⟩,?_⟩
  rw [zF,eU l i j];generalize l[i]=z at e C;refine cS (bMV z f C) ?_;refine aC (λh4=>?_) (λh4=>?_)<;> try simp only [zC,zA,zE,zD,zG] at h4
  ·have h4:jP z f=false:=by simpa using h4
   rw [aX,e,h4] at m;have m:q=false:=by rw [<-m];rfl
   subst m;refine Wk ?_
   try subst m
   exact Lf
  have h4:jP z f=true:=by simpa using h4
  rw [h4,zK] at e;refine cS (aRD z) ?_;rw [aO (n:=(i:Int)+1) (by omega) (by omega),show((i:Int)+1)=((i+1:Nat):Int) by omega];refine⟨(i+1,kL z),⟨by show i+1<=_;omega,e⟩,?_,by show l.length- (i+1)<l.length-i;omega⟩;exact Vw []
 have j:i=l.length:=by simp at j;omega
 rw [j,zL,vG] at e;rw [aX,e,zK] at m;refine Wk ?_;rw [aE];subst m;refine Wk ?_
 try subst m
 exact Lf
def aFA(z:Zn)(f:Int):Bool:=(z.first != f||decide (z.size<1))||decide (IntKind.i64.wrap (65-f)<z.size)
def aST(z:Zn)(f:Int):Bool:=((((aFA z f||decide (z.min<0))||decide (z.low<z.min))||decide (z.high<z.low))||decide (z.size<z.high))
theorem aZY(z:Zn)(f:Int)(j:1<=f/\f<=65)(h:aST z f=false):jH z f=false/\kN z=false/\kL z=f+z.size/\1<=kL z/\kL z<=65:=by
 simp only [aST,aFA,zH,zdn,bne_eq_false_iff_eq] at h;rw [aO (by omega) (by omega)] at h;have e:kL z=f+z.size:=by rw [kL,aO (by omega) (by omega)];omega
 refine⟨?_,?_,e,by omega,by omega⟩
 ·simp only [jH,zH,zdn,bne_eq_false_iff_eq];omega
 ·simp only [kN,zH,zdn];omega
theorem aOB(z:Zn)(f:Int)(m:1<=f/\f<=65)(h:aST z f=true):jP z f=false:=by
 rw [jP]
 by_cases e:jH z f=true
 ·rw [e];rfl
 ·have e:jH z f=false:=by simpa using e
  have h2:kN z=true:=by
   simp only [aST,aFA,zO,decide_eq_true_eq,bne_iff_ne] at h;rw [aO (by omega) (by omega)] at h;simp only [jH,zH,zdn,bne_eq_false_iff_eq] at e;have j:kL z=f+z.size:=by rw [kL,aO (by omega) (by omega)];omega
   simp only [kN,zO,decide_eq_true_eq];omega
  rw [e,h2];rfl
theorem aXJ(l:List Zn)(t:Bool)(G:fO l):aN Tryz.prog 212 [] [.lst 6 t (aJ l)] (.bool (aX l)) []:=by
 have H:=G.len;refine cG Tryz.func212 ?_;generalize j:aX l=q;refine Wk ?_;refine⟨Nat×Int,λp=>p.1<=l.length/\(1<=p.2/\p.2<=65)/\vG 1 l=vG p.2 (l.drop p.1),λp=>⟨[(0,⟨[],true,.lst 6 t (aJ l)⟩),(2,⟨[],true,.bool false⟩),(3,⟨[],true,.int .i64 p.2⟩),(4,⟨[],true,.int .i64 (p.1:Int)⟩)],[],0⟩,λp=>l.length-p.1,⟨(0,1),⟨by simp,by decide,rfl⟩,?_⟩,λp N=>?_⟩
 ·exact Vw []
 obtain⟨i,f⟩:=p;obtain⟨E,B,e⟩:=N;simp only at E e B;refine Wk ?_;rw [aE];refine aC (λm=>?_) (λm=>?_)<;> try simp only [zC,zA,zE,zD,zG] at m
 ·have m:i<l.length:=by simp at m;omega
  rw [zI m,vG] at e;have R:=G.at m;refine Wk ?_
  first |refine aG (⟨rfl,by omega,by rw [aE];omega⟩) ?_ |refine iE (λ_=>⟨rfl,by omega,by rw [aE];omega⟩) ?_ |refine⟨λ_=>⟨rfl,by omega,by rw [aE];omega⟩,?_⟩
  rw [zF,eU l i m];generalize l[i]=z at e R;refine Wk ?_;refine aC (λh4=>?_) (λh4=>?_)<;> try simp only [zC,zA,zE,zD,zG] at h4
  ·have h4:aST z f=true:=h4;rw [aX,e,aOB z f B h4] at j;have j:q=false:=by rw [<-j];rfl
   subst j;refine Wk ?_
   try subst j
   exact Lf
  have h4:aST z f=false:=h4;obtain⟨e1,J,K,M⟩:=aZY z f B h4;have F:jP z f=uP z.first (kL z) z.free z.free.length:=by rw [jP,e1,J];rfl
  refine Wk ?_;refine⟨Nat,λk=>k<=z.free.length/\uP z.first (kL z) z.free k=true,λk=>⟨[(0,⟨[],true,.lst 6 t (aJ l)⟩),(2,⟨[],true,.bool false⟩),(3,⟨[],true,.int .i64 f⟩),(4,⟨[],true,.int .i64 (i:Int)⟩),(5,⟨[],true,.ptr 0 0 0⟩),(6,⟨[],true,.int .i64 (k:Int)⟩)],[(0,.box z.c)],1⟩,λk=>z.free.length-k,⟨0,⟨by omega,rfl⟩,?_⟩,λk O=>?_⟩
  ·exact Vq [some _]
  obtain⟨Q,D⟩:=O;refine Wk ?_;rw [aA];refine aC (λh5=>?_) (λh5=>?_)<;> try simp only [zC,zA,zE,zD,zG] at h5
  ·have h5:k<z.free.length:=by simp at h5;omega
   refine Wk ?_
   first |refine aG (⟨rfl,by omega,by rw [aA];omega⟩) ?_ |refine iE (λ_=>⟨rfl,by omega,by rw [aA];omega⟩) ?_ |refine⟨λ_=>⟨rfl,by omega,by rw [aA];omega⟩,?_⟩
   rw [zF,bN z.free k h5];refine Wk ?_
   first |refine aG (⟨rfl,by omega,by rw [aA];omega⟩) ?_ |refine iE (λ_=>⟨rfl,by omega,by rw [aA];omega⟩) ?_ |refine⟨λ_=>⟨rfl,by omega,by rw [aA];omega⟩,?_⟩
   rw [zF,bN z.free k h5];refine Wk ?_
   first |refine aG (⟨rfl,by omega,by rw [aA];omega⟩) ?_ |refine iE (λ_=>⟨rfl,by omega,by rw [aA];omega⟩) ?_ |refine⟨λ_=>⟨rfl,by omega,by rw [aA];omega⟩,?_⟩
   rw [zF,bN z.free k h5];refine Wk ?_;rw [aAN k (by omega)]
   first |refine iE (λhg=>⟨rfl,?_,?_⟩) ?_ |refine⟨λhg=>⟨rfl,?_,?_⟩,?_⟩
   ·simp only [zM,decide_eq_true_eq] at hg;rw [qE k (by omega)];omega
   ·rw [qE k (by omega),aA];omega
   rw [bN z.free (k-1) (by omega)];refine Wk ?_;rw [fI,fI];refine aC (λC=>?_) (λC=>?_)<;> try simp only [zC,zA,zE,zD,zG] at C
   ·have C:lH z.first (kL z) z.free k=true:=C;rw [aX,e,F,aL5 _ _ _ _ k h5 C] at j;have j:q=false:=by rw [<-j];rfl
    subst j;refine Wk ?_
    try subst j
    exact Lf
   have C:lH z.first (kL z) z.free k=false:=C;refine Wk ?_;rw [aO (n:=(k:Int)+1) (by omega) (by omega),show((k:Int)+1)=((k+1:Nat):Int) by omega];refine⟨k+1,⟨by omega,by simp only [uP,D,C];rfl⟩,?_,by show z.free.length- (k+1)<z.free.length-k;omega⟩;exact Vw [some 0]
  have h5:k=z.free.length:=by simp at h5;omega
  rw [F,<-h5,D,zK] at e;refine Wk ?_;rw [aO (n:=f+z.size) (by omega) (by omega),aO (n:=(i:Int)+1) (by omega) (by omega),show((i:Int)+1)=((i+1:Nat):Int) by omega];refine⟨(i+1,kL z),⟨by show i+1<=_;omega,M,e⟩,?_,by show l.length- (i+1)<l.length-i;omega⟩;rw [<-K];exact Vw []
 have m:i=l.length:=by simp at m;omega
 rw [m,zL,vG] at e;rw [aX,e,zK] at j;refine Wk ?_;rw [aE];subst j;refine Wk ?_
 try subst j
 exact Lf
def iX(z:Zn):Zn:=⟨z.first,z.size,z.min,z.low,z.high,z.free,true⟩
def kJ(l:List Zn)(i:Nat):List Zn:=(l.take i).map iX++l.drop i
theorem vH(l:List Zn)(i:Nat):(kJ l i).length=l.length:=by simp [kJ];omega
theorem aOF(l:List Zn)(i:Nat)(h:i<l.length):(kJ l i)[i]'(by rw [vH];exact h)=l[i]:=by
 have e:((l.take i).map iX).length=i:=by simp;omega
 simp only [kJ];rw [List.getElem_append_right (by omega)];simp only [e,Nat.sub_self,List.getElem_drop,Nat.add_zero]
theorem aOG(l:List Zn)(i:Nat)(h:i<l.length):(kJ l i).set i (iX l[i])=kJ l (i+1):=by
 have e:((l.take i).map iX).length=i:=by simp;omega
 simp only [kJ];rw [List.set_append_right _ _ (by omega),e,Nat.sub_self,zI h,List.set_cons_zero,List.take_succ_eq_append_getElem h,List.map_append,List.append_assoc];rfl
theorem aOE(l:List Zn):kJ l l.length=l.map iX:=by simp [kJ]
theorem aLD(l:List Zn):kJ l 0=l:=by simp [kJ]
theorem aJZ(L:List Zn)(i:Nat)(h:i<L.length)(f:List Int)(e:Bool):
 (aJ L).set i (aS 6 ((aJ L).getD i []) 5 [.lst 1 e (aB f)])=aJ (L.set i ⟨(L[i]'h).first,(L[i]'h).size,(L[i]'h).min,(L[i]'h).low,(L[i]'h).high,f,e⟩):=by
 rw [eU L i h,aJ,aJ,List.map_set];rfl
theorem bA8 {e:List (List V)} {n:Nat} {z:List V} (h:e.length=n):(List.replicate n z).take 0++e.take (min e.length n)++(List.replicate n z).drop (0+min e.length n)=e:=by subst h;simp
theorem bEG(l:List Zn)(t:Bool)(j:fO l):aN Tryz.prog 210 [] [.lst 6 t (aJ l)] (.sl 0 0 l.length) [.row 6 (aJ (l.map iX))]:=by
 have m:=j.len;refine eX (ob0:= []) [.r 26] Tryz.func210 rfl rfl rfl rfl ?_;refine Wk ?_;refine .inr ⟨λ_=>⟨[],_,_,_,aR9 (aJ l) t (by rw [aE];omega),trivial,rfl,rfl,rfl,?_⟩,(by intro h;cases h)⟩
 rw [aE];refine Wk ?_;refine⟨Nat,λi=>i<=l.length,λi=>⟨[(0,⟨[],true,.lst 6 t (aJ l)⟩),(3,⟨[],true,.sl 0 0 l.length⟩),(9,⟨[],true,.int .i64 (l.length:Int)⟩),(10,⟨[],true,.int .i64 (i:Int)⟩)],[(0,.row 6 (aJ (kJ l i)))],1⟩,λi=>l.length-i,⟨0,by omega,?_⟩,λi f=>?_⟩
 ·exact Vw [some 0]
  try rw [aLD]
 have f:i<=l.length:=f;refine Wk ?_;refine aC (λe=>?_) (λe=>?_)<;> try simp only [zC,zA,zE,zD,zG] at e
 ·have e:i<l.length:=by simp at e;omega
  have C:=j.free _ (zJ e);refine Wk ?_;refine aG (⟨rfl,by omega,by rw [aE];omega⟩) ?_;rw [zF,eU l i e];generalize B:l[i]=z at C;refine Wk ?_;rw [aA];refine Wk ?_;refine aRW (by omega) (by omega) (by omega) (by omega) ?_;rw [zF];refine Wk ?_
  refine⟨Unit,λ_=>True,λ_=>⟨[(0,⟨[],true,.lst 6 t (aJ l)⟩),(3,⟨[],true,.sl 0 0 l.length⟩),(4,⟨[],true,.int .i64 (i:Int)⟩),(5,⟨[],true,.lst 1 true (aB z.free)⟩),(9,⟨[],true,.int .i64 (l.length:Int)⟩),(10,⟨[],true,.int .i64 (i:Int)⟩)],[(0,.row 6 (aJ (kJ l i)))],1⟩,?_,λ_ _=>?_⟩
  ·refine Wk ?_;refine aG (⟨rfl,by omega,by rw [aE];omega⟩) ?_;rw [zF,eU l i e,B];refine Wk ?_;refine aG (by simp) ?_;rw [bA8 (aA _)];refine Wk ?_;refine⟨(),trivial,?_⟩;refine bS [some 0] rfl rfl ?_ rfl ?_ rfl ?_
   repeat' (first |exact trivial |rfl |exact .inl rfl |exact .inr rfl |exact id |exact zbc |apply And.intro)
   ·exact λ_=>rfl
   ·show 0+z.free.length<=(aB z.free).length;rw [aA];omega
   ·exact dI (aA _)
  ·refine Wk ?_;refine aG (⟨by omega,by omega⟩) ?_;refine Wk ?_;refine aG (by rw [aE,vH];omega) ?_;refine Wk ?_;rw [zF,zN,aO (n:=(i:Int)+1) (by omega) (by omega),show((i:Int)+1)=((i+1:Nat):Int) by omega];refine⟨i+1,by show i+1<=_;omega,?_,by show l.length- (i+1)<l.length-i;omega⟩;refine bS [some 0] rfl rfl ?_ rfl ?_ rfl ?_
   repeat' (first |exact trivial |rfl |exact .inl rfl |exact .inr rfl |exact id |exact zbc |apply And.intro)
   refine(aJZ (kJ l i) i (by rw [vH];exact e) z.free true).trans ?_;rw [aOF l i e,<-aOG l i e,B];rfl
 have e:i=l.length:=by simp at e;omega
 subst e;rw [aOE];refine Wk ?_;exact⟨[some 0],Cl,rfl,Cl,rfl,Cl⟩
structure aKW(z:Zn):Prop where
 first :1<=z.first
 size:1<=z.size/\z.size<=64
 stop:z.first+z.size<=65
 marks:0<=z.min/\z.min<=z.low/\z.low<=z.high/\z.high<=z.size
 asc:uP z.first (z.first+z.size) z.free z.free.length=true
theorem rJ {z:Zn} {f:Int} (m:1<=f/\f<=65)(h:jP z f=true):aKW z/\z.first=f/\kL z=f+z.size:=by
 rw [jP] at h
 cases e:jH z f with
 |true=>rw [e] at h;cases h
 |false=>
  cases h2:kN z with
  |true=>rw [e,h2] at h;cases h
  |false=>
   rw [e,h2] at h;simp only [zcf] at h;simp only [jH,zH,zdn,bne_eq_false_iff_eq] at e;simp only [kN,zH,zdn] at h2;have j:kL z=z.first+z.size:=by rw [kL,aO (by omega) (by omega)]
   rw [j] at h e;exact⟨⟨by omega,by omega,by omega,by omega,h⟩,by omega,by omega⟩
theorem aHL:∀(l:List Zn) (f:Int),1<=f/\f<=65->vG f l=true->∀z∈l,aKW z
 | [],_,_,_=>by simp
 |z::r,f,j,h=>by
  simp only [vG,zM] at h;obtain⟨g,m,h2⟩:=rJ j h.1;have :=g.stop;have :=g.size;intro y e;rcases List.mem_cons.1 e with rfl |e
  ·exact g
  ·exact aHL r _ (by omega) h.2 y e
theorem qN {l:List Zn} (h:aX l=true):∀z∈l,aKW z:=by simp only [aX,zM] at h;exact aHL l 1 (by decide) h.1
def lE(g:Zn->Int):List Zn->Int
 | []=>0
 |z::r=>g z+lE g r
def nZ(z:Zn):Int:=z.free.length
def aHV(l:List Zn):Int:=bif aX l then lE nZ l else 0
theorem aW4 {l:List Zn} (e:fO l) {i:Nat} (h:i<l.length):0<=nZ l[i]/\nZ l[i]<=100000:=by have :=e.free _ (zJ h);unfold nZ;omega
theorem bLD(l:List Zn)(t:Bool)(hl:fO l):aN Tryz.prog 114 [] [.lst 6 t (aJ l)] (.int .i64 (aHV l)) []:=by
 have hlen:=hl.len;refine cG Tryz.func114 ?_;generalize hk:aHV l=q;refine cS (aXJ l t hl) ?_;refine aC (λh1=>?_) (λh1=>?_)
 case' refine_2=>
  simp only [aHV,h1,zcf] at hk;subst hk;refine Wk ?_
  try subst hk
  exact Lf
 simp only [aHV,h1,zct] at hk;refine Wk ?_;refine⟨Nat×Int,λp=>p.1<=l.length/\p.2+lE nZ (l.drop p.1)=q/\0<=p.2/\p.2<=100000*(p.1:Int),λp=>⟨[(0,⟨[],true,.lst 6 t (aJ l)⟩),(2,⟨[],true,.int .i64 0⟩),(3,⟨[],true,.int .i64 p.2⟩),(4,⟨[],true,.int .i64 (p.1:Int)⟩)],[],0⟩,λp=>l.length-p.1,⟨(0,0),⟨by simp,by simpa using hk,by simp,by simp⟩,?_⟩,λp hI=>?_⟩
 ·exact Vw []
 obtain⟨i,s⟩:=p;obtain⟨hI1,hI2,hI3,hI4⟩:=hI;simp only at hI1 hI2 hI3 hI4;refine Wk ?_;rw [aE];refine aC (λh3=>?_) (λh3=>?_)<;> try simp only [zC,zA,zE,zD,zG] at h3
 ·have h3:i<l.length:=by simp at h3;omega
  have hf:=aW4 hl h3;have hst:lE nZ (l.drop i)=nZ l[i]+lE nZ (l.drop (i+1)):=by rw [zI h3];rfl
  rw [hst] at hI2;refine Wk ?_;refine aG (⟨rfl,by omega,by rw [aE];omega⟩) ?_;rw [zF,eU l i h3];generalize l[i]=z at hI2 hf;refine Wk ?_;rw [aA];unfold nZ at hI2 hf;rw [aO (n:=s+(z.free.length:Int)) (by omega) (by omega),aO (n:=(i:Int)+1) (by omega) (by omega),show((i:Int)+1)=((i+1:Nat):Int) by omega]
  refine⟨(i+1,s+(z.free.length:Int)),⟨by show i+1<=_;omega,by show s+(z.free.length:Int)+lE nZ (l.drop (i+1))=q;unfold nZ;omega,by show 0<=s+(z.free.length:Int);omega,by show s+(z.free.length:Int)<=100000*((i+1:Nat):Int);omega⟩,?_,by show l.length- (i+1)<l.length-i;omega⟩;exact Vw []
 have h3:i=l.length:=by simp at h3;omega
 rw [h3,zL,lE,Int.add_zero] at hI2;subst hI2;refine Wk ?_
 try subst hk
 exact Lf
def inG(f:Int)(z:Zn):Bool:=bif decide (z.first<=f) then decide (f<kL z) else false
theorem bN9(z:Zn)(f:Int):aN Tryz.prog 318 [] [.agg z.c,.rp 1 [.int .i64 f] 0] (.bool (inG f z)) []:=by refine cG Tryz.func318 ?_;refine cS (aRD z) ?_;exact Lf
theorem call58:iY Tryz.prog 318:=⟨_,Tryz.func318,rfl,rfl⟩
def aFN(u:Bool)(z:Zn):Int:=bif u then 0 else z.min
def sS(u:Bool)(z:Zn):Bool:=decide (aFN u z< (z.free.length:Int))
def fE(l:List Zn)(u:Bool):Nat->Option Nat
 |0=>none
 |i+1=>bif sS u (l.getD i gN) then some i else fE l u i
def aGU(z:Zn):Zn:=⟨z.first,z.size,z.min,z.low,z.high,z.free.drop 1,false⟩
def cV(base l:List Zn)(p:Int)(u:Bool):List Zn×Int×Int:=
 bif !aX l then(base,0,1) else bif decide (p<0)||decide ((l.length:Int)<=p) then(base,0,2) else
 match fE l u (p+1).toNat with
 |some i=>(base.set i (aGU (l.getD i gN)),(l.getD i gN).free.getD 0 0,0)
 |none=>(base,0,3)
theorem aDG(l:List Zn)(i:Nat)(h:i<l.length):l.getD i gN=l[i]:=by simp [List.getD_eq_getElem?_getD,h]
theorem aHW(l:List Zn)(i:Nat)(h:i<l.length):(aJ (l.map iX)).getD i []=(iX l[i]).c:=by rw [eU _ i (by simpa using h)];simp
theorem drop1(l:List Int):((aB l).take (aB l).length).drop (1:Int).toNat=aB (l.drop 1):=by rw [List.take_length,aB,aB,List.map_drop];rfl
theorem bE7(l:List Zn)(t:Bool)(p:Int)(u:Bool)(E:fO l):aN Tryz.prog 109 [] [.lst 6 t (aJ l),.int .i64 p,.bool u] (.tup [.lst 6 false (aJ (cV (l.map iX) l p u).1),.int .i64 (cV (l.map iX) l p u).2.1,.int .i64 (cV (l.map iX) l p u).2.2]) []:=by
 have G:=E.len;refine cG Tryz.func109 ?_;generalize e:cV (l.map iX) l p u=q;refine Wk ?_;refine .inr ⟨λ_=>⟨[],_,_,_,bEG l t E,trivial,rfl,rfl,rfl,?_⟩,(by intro h;cases h)⟩
 refine cS (aXI l t E) ?_;refine aC (λB=>?_) (λB=>?_)<;> try simp only [zC,zA,zE,zD,zG] at B
 ·have B:(!aX l)=true:=by rw [B];rfl
  simp only [cV,B,zct] at e;subst e;refine Wk ?_;refine⟨[],trivial,rfl,trivial,rfl,?_⟩
  try subst e
  repeat' (first |exact trivial |rfl |exact .inl rfl |exact .inr rfl |exact id |exact zbc |apply And.intro)
  ·show 0+l.length<=_;rw [aE];simp
  ·refine dI ?_;rw [aE];simp
 have C:aX l=true:=by simpa using B
 have B:(!aX l)=false:=by rw [C];rfl
 have hg:=qN C;simp only [cV,B,zcf] at e;refine Wk ?_;rw [aE];refine aC (λh2=>?_) (λh2=>?_)<;> try simp only [zC,zA,zE,zD,zG] at h2
 ·simp only [h2,zct] at e;subst e;refine Wk ?_;refine⟨[],trivial,rfl,trivial,rfl,?_⟩
  try subst e
  repeat' (first |exact trivial |rfl |exact .inl rfl |exact .inr rfl |exact id |exact zbc |apply And.intro)
  ·show 0+l.length<=_;rw [aE];simp
  ·refine dI ?_;rw [aE];simp
 simp only [h2,zcf] at e;simp only [zH,zdn] at h2;refine Wk ?_;refine⟨Int,λi=>(-1<=i/\i<l.length)/\fE l u (i+1).toNat=fE l u (p+1).toNat,λi=>⟨[(2,⟨[],true,.bool u⟩),(9,⟨[],true,.sl 0 0 l.length⟩),(10,⟨[],true,.int .i64 i⟩)],[(0,.row 6 (aJ (l.map iX)))],1⟩,λi=>(i+1).toNat,⟨p,⟨by omega,rfl⟩,?_⟩,λi H=>?_⟩
 ·exact Vq [some _]
 obtain⟨⟨J,K⟩,m⟩:=H;refine Wk ?_;refine aC (λD=>?_) (λD=>?_)<;> try simp only [zC,zA,zE,zD,zG] at D
 ·have D:0<=i:=by simpa using D
  obtain⟨n,rfl⟩:∃n:Nat,i=n:=⟨i.toNat,by omega⟩;have f:n<l.length:=by omega
  refine Wk ?_;refine aG (⟨by omega,by omega⟩) ?_;refine Wk ?_;refine aG (by rw [aE];simp;omega) ?_;refine Wk ?_;rw [zN,zF,aHW l n f];refine Wk ?_;refine aC (λF=>?_) (λF=>?_)<;> try simp only [zC,zA,zE,zD,zG] at F
  all_goals
   refine Wk ?_;refine aG (⟨by omega,by omega⟩) ?_;refine Wk ?_;refine aG (by rw [aE];simp;omega) ?_;refine Wk ?_;rw [zN,zF,aHW l n f];refine Wk ?_;rw [aA];refine aC (λh4=>?_) (λh4=>?_)<;> try simp only [zC,zA,zE,zD,zG] at h4
   ·have h4:sS u l[n]=true:=by rw [sS,aFN,F];exact h4
    have j:0<l[n].free.length:=by have :=(hg l[n] (zJ f)).marks;simp only [sS,aFN,F,decide_eq_true_eq,zct,zcf] at h4;omega
    have z:fE l u (n+1)=some n:=by simp only [fE,aDG l n f,h4,zct]
    rw [<-m,show((n:Int)+1).toNat=n+1 by omega,z] at e;simp only [aDG l n f] at e;refine Wk ?_;refine aG (⟨by omega,by omega⟩) ?_;refine Wk ?_;refine aG (by rw [aE];simp;omega) ?_;refine Wk ?_;rw [zN,zF,aHW l n f];refine Wk ?_;refine aG (⟨rfl,by decide,by rw [aA];show(0:Int)< (l[n].free.length:Int);omega⟩) ?_;rw [show((0:Int)).toNat=0 from rfl,bN _ 0 (by exact j)];refine Wk ?_;refine aG (⟨by omega,by omega⟩) ?_;refine Wk ?_;refine aG (by rw [aE];simp;omega) ?_;refine Wk ?_
    rw [zN,zF,aHW l n f];refine Wk ?_;refine aG (⟨.inl rfl,by decide,by rw [aA];show(1:Int)<=(l[n].free.length:Int);omega,Int.le_refl _⟩) ?_;rw [zF,drop1];refine Wk ?_;refine aG (⟨by omega,by omega⟩) ?_;refine Wk ?_;refine aG (by rw [aE];simp;omega) ?_;refine Wk ?_;subst e;refine⟨[],trivial,rfl,trivial,rfl,?_⟩
    try subst e
    repeat' (first |exact trivial |rfl |exact .inl rfl |exact .inr rfl |exact id |exact zbc |apply And.intro)
    ·show 0+l.length<=_;rw [zP,aE];simp
    ·rw [zN,zF];refine(congrArg (λr=>List.take l.length (List.drop 0 r)) (aJZ (l.map iX) n (by simp;omega) (l[n].free.drop 1) false)).trans ?_;refine(dI (by rw [aE];simp)).trans ?_;simp only [List.getElem_map];rfl
    ·exact fI _ 0 j
   have h4:sS u l[n]=false:=by rw [sS,aFN,F];exact h4
   have z:fE l u (n+1)=fE l u n:=by simp only [fE,aDG l n f,h4,zcf]
   refine Wk ?_;rw [aO (n:=(n:Int)-1) (by omega) (by omega)];refine⟨(n:Int)-1,⟨by omega,by rw [show((n:Int)-1+1).toNat=n by omega,<-z,<-m,show((n:Int)+1).toNat=n+1 by omega]⟩,?_,by show((n:Int)-1+1).toNat< ((n:Int)+1).toNat;omega⟩;exact Vw [some 0]
 have D:i= -1:=by simp at D;omega
 subst D;rw [<-m] at e;have e:(l.map iX,(0:Int),(3:Int))=q:=e;subst e;refine Wk ?_;refine⟨[],trivial,rfl,trivial,rfl,?_⟩
 try subst e
 repeat' (first |exact trivial |rfl |exact .inl rfl |exact .inr rfl |exact id |exact zbc |apply And.intro)
 ·show 0+l.length<=_;rw [aE];simp
 ·refine dI ?_;rw [aE];simp
theorem bEH(l:List Zn)(t:Bool)(i:Nat)(z:Zn)(hi:i<l.length)(f:l.length<=100000):aN Tryz.prog 213 [] [.lst 6 t (aJ l),.int .i64 i,.agg z.c] (.lst 6 false (aJ (l.set i z))) []:=by
 refine cG Tryz.func213 ?_;generalize e:l.set i z=q;refine Wk ?_;rw [aE];refine cC (by omega) (by omega) ?_;refine Wk ?_;refine aG (⟨by omega,by omega⟩) ?_;refine Wk ?_;refine aG (by rw [aE];omega) ?_;refine Wk ?_;subst e;refine⟨[],trivial,rfl,trivial,rfl,?_⟩
 try subst e
 repeat' (first |exact trivial |rfl |exact .inl rfl |exact .inr rfl |exact id |exact zbc |apply And.intro)
 ·show 0+l.length<=_;rw [zP,aE];omega
 ·rw [zN,zF];refine(dI (by rw [zP,aE])).trans ?_;rw [aJ,aJ,List.map_set];rfl
theorem aM3 {z:Zn} (g:aKW z)(u:Bool):(decide (z.min< (z.free.length:Int))||(u&&decide (0< (z.free.length:Int))))=sS u z:=by
 have :=g.marks
 cases u with
 |false=>exact Bool.or_false _
 |true=>
  show(decide (z.min< (z.free.length:Int))||(true&&decide (0< (z.free.length:Int))))=decide ((0:Int)< (z.free.length:Int))
  rw [Bool.eq_iff_iff];simp only [zK,zO,decide_eq_true_eq];omega
theorem aWC {z:Zn} (g:aKW z) {u:Bool} (h:sS u z=true):0<z.free.length:=by
 have :=g.marks
 cases u with
 |false=> have :z.min< (z.free.length:Int):=of_decide_eq_true h;omega
 |true=> have :(0:Int)< (z.free.length:Int):=of_decide_eq_true h;omega
theorem bLA(l:List Zn)(t:Bool)(p:Int)(u:Bool)(K:fO l):aN Tryz.prog 110 [] [.lst 6 t (aJ l),.int .i64 p,.bool u] (.tup [.lst 6 false (aJ (cV l l p u).1),.int .i64 (cV l l p u).2.1,.int .i64 (cV l l p u).2.2]) []:=by
 have G:=K.len;refine eX (ob0:= []) [.r 57] Tryz.func110 rfl rfl rfl rfl ?_;generalize e:cV l l p u=q;refine cS (aXJ l t K) ?_;refine aC (λD=>?_) (λD=>?_)<;> try simp only [zC,zA,zE,zD,zG] at D
 ·have D:(!aX l)=true:=by rw [D];rfl
  simp only [cV,D,zct] at e;subst e;refine Wk ?_
  try subst e
  exact Lf
 have E:aX l=true:=by simpa using D
 have D:(!aX l)=false:=by rw [E];rfl
 have hg:=qN E;simp only [cV,D,zcf] at e;refine Wk ?_;rw [aE];refine aC (λh2=>?_) (λh2=>?_)<;> try simp only [zC,zA,zE,zD,zG] at h2
 ·simp only [h2,zct] at e;subst e;refine Wk ?_
  try subst e
  exact Lf
 simp only [h2,zcf] at e;simp only [zH,zdn] at h2;refine Wk ?_;refine⟨Int,λi=>(-1<=i/\i<l.length)/\fE l u (i+1).toNat=fE l u (p+1).toNat,λi=>⟨[(0,⟨[],true,.lst 6 t (aJ l)⟩),(2,⟨[],true,.bool u⟩),(9,⟨[],true,.int .i64 i⟩)],[],0⟩,λi=>(i+1).toNat,⟨p,⟨by omega,rfl⟩,?_⟩,λi M=>?_⟩
 ·exact Vw []
 obtain⟨⟨N,O⟩,m⟩:=M;refine Wk ?_;refine aC (λF=>?_) (λF=>?_)<;> try simp only [zC,zA,zE,zD,zG] at F
 ·have F:0<=i:=by simpa using F
  obtain⟨n,rfl⟩:∃n:Nat,i=n:=⟨i.toNat,by omega⟩;have B:n<l.length:=by omega
  have f:=hg l[n] (zJ B);have J:=K.free l[n] (zJ B);refine Wk ?_;refine aG (⟨rfl,by omega,by rw [aE];omega⟩) ?_;rw [zF,eU l n B];obtain⟨z,H⟩:∃z,l[n]=z:=⟨_,rfl⟩;rw [H] at f J⊢;have R:=f.marks;refine Wk ?_;rw [aA];refine Wk ?_;refine aC (λh4=>?_) (λh4=>?_)<;> try simp only [zC,zA,zE,zD,zG] at h4
  ·rw [aM3 f u] at h4;have j:0<z.free.length:=aWC f h4;have C:fE l u (n+1)=some n:=by simp only [fE,aDG l n B,H,h4,zct]
   rw [<-m,show((n:Int)+1).toNat=n+1 by omega,C] at e;simp only [aDG l n B,H] at e;refine Wk ?_;refine aG (⟨rfl,by decide,by rw [aA];omega⟩) ?_;rw [show((0:Int)).toNat=0 from rfl,bN _ 0 j];refine Wk ?_;refine⟨Unit,λ_=>True,λ_=>⟨[(0,⟨[],true,.lst 6 t (aJ l)⟩),(9,⟨[],true,.int .i64 (n:Int)⟩),(10,⟨[],true,.ptr 0 0 0⟩),(11,⟨[],true,.int .i64 z.free[0]⟩)],[(0,.box (aGU z).c)],1⟩,?_,λ_ _=>?_⟩
   ·refine Wk ?_;refine aG (⟨.inl rfl,by decide,by rw [aA];omega,Int.le_refl _⟩) ?_;rw [zF,drop1];refine Wk ?_;rw [aA];have Q:(z.free.drop 1).length<=100000:=by simp;omega
    refine cC (by omega) (by omega) ?_;refine Wk ?_;refine⟨(),trivial,?_⟩;refine bS [some 0] rfl rfl ?_ rfl ?_ rfl ?_
    repeat' (first |exact trivial |rfl |exact .inl rfl |exact .inr rfl |exact id |exact zbc |apply And.intro)
    ·show 0+(z.free.drop 1).length<=(aB (z.free.drop 1)).length;rw [aA];omega
    ·exact dI (aA _)
   ·refine cS (bEH l t n (aGU z) B G) ?_;subst e;refine⟨[],trivial,rfl,trivial,rfl,?_⟩
    try subst e
    repeat' (first |exact trivial |rfl |exact .inl rfl |exact .inr rfl |exact id |exact zbc |apply And.intro)
    exact fI _ 0 j
  rw [aM3 f u] at h4;have C:fE l u (n+1)=fE l u n:=by simp only [fE,aDG l n B,H,h4,zcf]
  refine Wk ?_;rw [aO (n:=(n:Int)-1) (by omega) (by omega)];refine⟨(n:Int)-1,⟨by omega,by rw [show((n:Int)-1+1).toNat=n by omega,<-C,<-m,show((n:Int)+1).toNat=n+1 by omega]⟩,?_,by show((n:Int)-1+1).toNat< ((n:Int)+1).toNat;omega⟩;exact Vw []
 have F:i= -1:=by simp at F;omega
 subst F;rw [<-m] at e;have e:(l,(0:Int),(3:Int))=q:=e;subst e;refine Wk ?_
 try subst e
 exact Lf
def aFB(x y:Zn):Bool:=((((x.first != y.first||x.size != y.size)||x.min != y.min)||x.low != y.low)||x.high != y.high)||((x.free.length:Int) != (y.free.length:Int))
def eqZ(x y:Zn):Bool:= !aFB x y&&decide (x.free=y.free)
def oN:List Zn->List Zn->Bool
 | [],[]=>true
 |x::a,y::b=>eqZ x y&&oN a b
 |_,_=>false
theorem aIP:∀(a b:List Zn),a.length≠b.length->oN a b=false
 | [],[],h=>absurd rfl h
 | [],_::_,_=>rfl
 |_::_,[],_=>rfl
 |x::a,y::b,h=>by simp only [oN,aIP a b (by simpa using h),Bool.and_false]
theorem bAP(x y:Zn):eqZ x y=true↔x.first=y.first/\x.size=y.size/\x.min=y.min/\x.low=y.low/\x.high=y.high/\x.free=y.free:=by
 simp only [eqZ,aFB,zM,zE,zH,bne_eq_false_iff_eq,decide_eq_true_eq];constructor
 ·rintro ⟨⟨⟨⟨⟨⟨f,h2⟩,j⟩,h4⟩,h5⟩,-⟩,e⟩;exact⟨f,h2,j,h4,h5,e⟩
 ·rintro ⟨f,h2,j,h4,h5,e⟩;exact⟨⟨⟨⟨⟨⟨f,h2⟩,j⟩,h4⟩,h5⟩,by rw [e]⟩,e⟩
theorem aIO:∀(a b:List Zn),oN a b=true↔a.length=b.length/\∀i (h:i<a.length) (e:i<b.length),eqZ a[i] b[i]=true
 | [],[]=>by simp [oN]
 | [],_::_=>by simp [oN]
 |_::_,[]=>by simp [oN]
 |x::a,y::b=>by
  simp only [oN,zM,aIO a b,List.length_cons];constructor
  ·rintro ⟨f,h2,j⟩;refine⟨by omega,λi h e=>?_⟩
   cases i with
   |zero=>exact f
   |succ i=>exact j i (by omega) (by omega)
  ·rintro ⟨f,h2⟩;exact⟨h2 0 (by omega) (by omega),by omega,λi h e=>h2 (i+1) (by omega) (by omega)⟩
theorem bPS(a b:List Zn)(K M:Bool)(N:fO a)(O:fO b):aN Tryz.prog 89 [] [.lst 6 K (aJ a),.lst 6 M (aJ b)] (.bool (oN a b)) []:=by
 have aa:=N.len;have ab:=O.len;refine cG Tryz.func89 ?_;generalize B:oN a b=q;refine Wk ?_;rw [aE,aE];refine aC (λC=>?_) (λC=>?_)<;> try simp only [zC,zA,zE,zD,zG] at C
 ·have C:a.length≠b.length:=by simp at C;omega
  rw [aIP a b C] at B;subst B;refine Wk ?_
  try subst B
  exact Lf
 have C:a.length=b.length:=by simp at C;omega
 refine Wk ?_;refine⟨Nat,λi=>i<=a.length/\oN (a.drop i) (b.drop i)=q,λi=>⟨[(0,⟨[],true,.lst 6 K (aJ a)⟩),(1,⟨[],true,.lst 6 M (aJ b)⟩),(4,⟨[],true,.bool false⟩),(5,⟨[],true,.int .i64 (i:Int)⟩)],[],0⟩,λi=>a.length-i,⟨0,⟨by omega,B⟩,?_⟩,λi R=>?_⟩
 ·exact Vw []
 obtain⟨T,f⟩:=R;refine Wk ?_;rw [aE];refine aC (λh2=>?_) (λh2=>?_)<;> try simp only [zC,zA,zE,zD,zG] at h2
 ·have h2:i<a.length:=by simp at h2;omega
  have m:i<b.length:=by omega
  rw [zI h2,zI m,oN] at f;have G:=N.free a[i] (zJ h2);have H:=O.free b[i] (zJ m);refine Wk ?_;refine⟨λ_=>⟨rfl,by omega,by rw [aE];omega⟩,?_⟩;rw [zF,eU a i h2];refine Wk ?_;refine⟨λ_=>⟨rfl,by omega,by rw [aE];omega⟩,?_⟩;rw [zF,eU b i m];generalize a[i]=x at f G;generalize b[i]=y at f H;refine Wk ?_;rw [aA,aA];refine Wk ?_;refine aC (λz=>?_) (λz=>?_)<;> try simp only [zC,zA,zE,zD,zG] at z
  ·have z:aFB x y=true:=z;rw [eqZ,z] at f;have f:false=q:=f;subst f;refine Wk ?_
   try subst B
   exact Lf
  have z:aFB x y=false:=z;rw [eqZ,z,Bool.not_false,zK] at f;have E:x.free.length=y.free.length:=by simp only [aFB,zH,bne_eq_false_iff_eq] at z;omega
  refine Wk ?_;refine⟨Nat,λk=>k<=x.free.length/\∀j (Q:j<k) (h:j<x.free.length) (F:j<y.free.length),x.free[j]=y.free[j],λk=>⟨[(0,⟨[],true,.lst 6 K (aJ a)⟩),(1,⟨[],true,.lst 6 M (aJ b)⟩),(4,⟨[],true,.bool false⟩),(5,⟨[],true,.int .i64 (i:Int)⟩),(6,⟨[],true,.ptr 0 0 0⟩),(7,⟨[],true,.ptr 1 0 0⟩),(8,⟨[],true,.int .i64 (k:Int)⟩)],[(0,.box x.c),(1,.box y.c)],2⟩,λk=>x.free.length-k,⟨0,⟨by omega,λj Q=>by omega⟩,?_⟩,λk W=>?_⟩
  ·exact Vq [some _,some _]
  obtain⟨Y,D⟩:=W;refine Wk ?_;rw [aA];refine aC (λh4=>?_) (λh4=>?_)<;> try simp only [zC,zA,zE,zD,zG] at h4
  ·have h4:k<x.free.length:=by simp at h4;omega
   refine Wk ?_;refine⟨λ_=>⟨rfl,by omega,by rw [aA];omega⟩,?_⟩;rw [zF,bN x.free k h4];refine Wk ?_;refine⟨λ_=>⟨rfl,by omega,by rw [aA];omega⟩,?_⟩;rw [zF,bN y.free k (by omega)];refine Wk ?_;refine aC (λh5=>?_) (λh5=>?_)<;> try simp only [zC,zA,zE,zD,zG] at h5
   ·have h5:x.free[k]≠y.free[k]'(by omega):=by simpa using h5
    have J:x.free≠y.free:=λe=>h5 (by simp [e]);rw [zdf J,Bool.false_and] at f;subst f;refine Wk ?_
    try subst B
    exact Lf
   have h5:x.free[k]=y.free[k]'(by omega):=by simpa using h5
   refine Wk ?_;rw [aO (n:=(k:Int)+1) (by omega) (by omega),show((k:Int)+1)=((k+1:Nat):Int) by omega];refine⟨k+1,⟨by omega,λj Q h F=>?_⟩,?_,by show x.free.length- (k+1)<x.free.length-k;omega⟩
   ·by_cases e:j=k
    ·subst e;exact h5
    ·exact D j (by omega) h F
   exact Vw [some 0,some 1]
  have h4:k=x.free.length:=by simp at h4;omega
  have Z:x.free=y.free:=List.ext_getElem E λj h F=>D j (by omega) h F;rw [zdt Z,zK] at f;refine Wk ?_;rw [aO (n:=(i:Int)+1) (by omega) (by omega),show((i:Int)+1)=((i+1:Nat):Int) by omega];refine⟨i+1,⟨by omega,f⟩,?_,by show a.length- (i+1)<a.length-i;omega⟩;exact Vw []
 have h2:i=a.length:=by simp at h2;omega
 rw [h2,zL,C,zL,oN] at f;subst f;refine Wk ?_
 try subst B
 exact Lf
end Go.Proofs.YtmhapcbjjpadnaaGreat
