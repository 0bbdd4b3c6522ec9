/- Caches. -/
import Derived.Test.YtmhapcbjjpadnaaGreatG1b
set_option linter.all false
set_option maxHeartbeats 8000000
set_option maxRecDepth 40000
open Bool renaming cond_false_right→zA,cond_true_left→zD,not_eq_false'→zE,not_eq_true'→zF,not_not→zG,or_eq_false_iff→zH,true_and→zM,and_eq_true→zO,or_eq_true→zQ
open Int renaming toNat_natCast→zC,le_refl→zL
open List renaming drop_eq_getElem_cons→zI,getElem_mem→zJ,drop_length→zN,length_set→zP,getElem_map→zS
open Nat renaming zero_add→zK
namespace Go.Proofs.YtmhapcbjjpadnaaGreat
open Go Go.Sk Go.RowKit
def uH:Int->List Zn->Bool
 |_,[]=>true
 |f,z::r=>iR z f&&uH (jH z) r
def bF(l:List Zn):Bool:=uH 1 l&&decide (0< (l.length:Int))
structure eV(l:List Zn):Prop where
 len:l.length<=100000
 free:∀z∈l,z.free.length<=100000
theorem eV.at {l:List Zn} (h:eV l) {i:Nat} (hi:i<l.length):(l[i].free.length:Int)<2^62:=by
 have :=h.free _ (zJ hi);omega
theorem aUX(l:List Zn)(t:Bool)(hl:eV l):aM Tryz.prog 211 [] [.lst 6 t (aQ l)] (.bool (bF l)) []:=by
 have hlen:=hl.len
 refine aF (ob0:= []) [] Tryz.func211 rfl rfl rfl rfl ?_
 generalize hk:bF l=q
 refine Wk ?_
 rw [aG]
 refine⟨Nat×Int,λp=>p.1<=l.length/\uH 1 l=uH p.2 (l.drop p.1),λp=>⟨[(0,⟨[],true,.lst 6 t (aQ l)⟩),(2,⟨[],true,.bool false⟩),(3,⟨[],true,.int .i64 p.2⟩),(6,⟨[],true,.lst 6 t (aQ l)⟩),(7,⟨[],true,.int .i64 (l.length:Int)⟩),(8,⟨[],true,.int .i64 (p.1:Int)⟩)],[],0⟩,λp=>l.length-p.1,⟨(0,1),⟨by simp,rfl⟩,?_⟩,λp hI=>?_⟩
 ·exact Vw []
 obtain⟨i,f⟩:=p
 obtain⟨hI1,hI2⟩:=hI
 simp only at hI1 hI2
 refine Wk ?_
 refine aC (λh3=>?_) (λh3=>?_)<;> try simp only [zD,zA,zF,zE,zG] at h3
 ·have h3:i<l.length:=by simp at h3;omega
  rw [zI h3,uH] at hI2
  have hf:=hl.at h3
  refine Wk ?_
  first |refine aB (⟨rfl,by omega,by rw [aG];omega⟩) ?_ |refine aH (λ_=>⟨rfl,by omega,by rw [aG];omega⟩) ?_ |refine⟨λ_=>⟨rfl,by omega,by rw [aG];omega⟩,?_⟩
  rw [zC,eK l i h3]
  generalize l[i]=z at hI2 hf
  refine cC (bIJ z f hf) ?_
  refine aC (λh4=>?_) (λh4=>?_)<;> try simp only [zD,zA,zF,zE,zG] at h4
  ·have h4:iR z f=false:=by simpa using h4
   rw [bF,hI2,h4] at hk
   have hk:q=false:=by rw [<-hk];rfl
   subst hk
   refine Wk ?_
   try subst hk
   exact Lf
  have h4:iR z f=true:=by simpa using h4
  rw [h4,zM] at hI2
  refine cC (aPE z) ?_
  rw [aR (n:=(i:Int)+1) (by omega) (by omega),show((i:Int)+1)=((i+1:Nat):Int) by omega]
  refine⟨(i+1,jH z),⟨by show i+1<=_;omega,hI2⟩,?_,by show l.length- (i+1)<l.length-i;omega⟩
  exact Vw []
 have h3:i=l.length:=by simp at h3;omega
 rw [h3,zN,uH] at hI2
 rw [bF,hI2,zM] at hk
 refine Wk ?_
 rw [aG]
 subst hk
 refine Wk ?_
 try subst hk
 exact Lf
def aE1(z:Zn)(f:Int):Bool:=(z.first != f||decide (z.size<1))||decide (IntKind.i64.wrap (65-f)<z.size)
def aQR(z:Zn)(f:Int):Bool:=((((aE1 z f||decide (z.min<0))||decide (z.low<z.min))||decide (z.high<z.low))||decide (z.size<z.high))
theorem aXJ(z:Zn)(f:Int)(hf:1<=f/\f<=65)(h:aQR z f=false):iM z f=false/\jL z=false/\jH z=f+z.size/\1<=jH z/\jH z<=65:=by
 simp only [aQR,aE1,zH,decide_eq_false_iff_not,bne_eq_false_iff_eq] at h
 rw [aR (by omega) (by omega)] at h
 have he:jH z=f+z.size:=by rw [jH,aR (by omega) (by omega)];omega
 refine⟨?_,?_,he,by omega,by omega⟩
 ·simp only [iM,zH,decide_eq_false_iff_not,bne_eq_false_iff_eq];omega
 ·simp only [jL,zH,decide_eq_false_iff_not];omega
theorem aMH(z:Zn)(f:Int)(hf:1<=f/\f<=65)(h:aQR z f=true):iR z f=false:=by
 rw [iR]
 by_cases h1:iM z f=true
 ·rw [h1];rfl
 ·have h1:iM z f=false:=by simpa using h1
  have h2:jL z=true:=by
   simp only [aQR,aE1,zQ,decide_eq_true_eq,bne_iff_ne] at h
   rw [aR (by omega) (by omega)] at h
   simp only [iM,zH,decide_eq_false_iff_not,bne_eq_false_iff_eq] at h1
   have he:jH z=f+z.size:=by rw [jH,aR (by omega) (by omega)];omega
   simp only [jL,zQ,decide_eq_true_eq]
   omega
  rw [h1,h2];rfl
theorem aUY(l:List Zn)(t:Bool)(hl:eV l):aM Tryz.prog 212 [] [.lst 6 t (aQ l)] (.bool (bF l)) []:=by
 have hlen:=hl.len
 refine aF (ob0:= []) [] Tryz.func212 rfl rfl rfl rfl ?_
 generalize hk:bF l=q
 refine Wk ?_
 refine⟨Nat×Int,λp=>p.1<=l.length/\(1<=p.2/\p.2<=65)/\uH 1 l=uH p.2 (l.drop p.1),λp=>⟨[(0,⟨[],true,.lst 6 t (aQ l)⟩),(2,⟨[],true,.bool false⟩),(3,⟨[],true,.int .i64 p.2⟩),(4,⟨[],true,.int .i64 (p.1:Int)⟩)],[],0⟩,λp=>l.length-p.1,⟨(0,1),⟨by simp,by decide,rfl⟩,?_⟩,λp hI=>?_⟩
 ·exact Vw []
 obtain⟨i,f⟩:=p
 obtain⟨hI1,hI3,hI2⟩:=hI
 simp only at hI1 hI2 hI3
 refine Wk ?_
 rw [aG]
 refine aC (λh3=>?_) (λh3=>?_)<;> try simp only [zD,zA,zF,zE,zG] at h3
 ·have h3:i<l.length:=by simp at h3;omega
  rw [zI h3,uH] at hI2
  have hf:=hl.at h3
  refine Wk ?_
  first |refine aB (⟨rfl,by omega,by rw [aG];omega⟩) ?_ |refine aH (λ_=>⟨rfl,by omega,by rw [aG];omega⟩) ?_ |refine⟨λ_=>⟨rfl,by omega,by rw [aG];omega⟩,?_⟩
  rw [zC,eK l i h3]
  generalize l[i]=z at hI2 hf
  refine Wk ?_
  refine aC (λh4=>?_) (λh4=>?_)<;> try simp only [zD,zA,zF,zE,zG] at h4
  ·have h4:aQR z f=true:=h4
   rw [bF,hI2,aMH z f hI3 h4] at hk
   have hk:q=false:=by rw [<-hk];rfl
   subst hk
   refine Wk ?_
   try subst hk
   exact Lf
  have h4:aQR z f=false:=h4
  obtain⟨e1,e2,e3,e4⟩:=aXJ z f hI3 h4
  have e5:iR z f=tU z.first (jH z) z.free z.free.length:=by rw [iR,e1,e2];rfl
  refine Wk ?_
  refine⟨Nat,λk=>k<=z.free.length/\tU z.first (jH z) z.free k=true,λk=>⟨[(0,⟨[],true,.lst 6 t (aQ l)⟩),(2,⟨[],true,.bool false⟩),(3,⟨[],true,.int .i64 f⟩),(4,⟨[],true,.int .i64 (i:Int)⟩),(5,⟨[],true,.ptr 0 0 0⟩),(6,⟨[],true,.int .i64 (k:Int)⟩)],[(0,.box z.c)],1⟩,λk=>z.free.length-k,⟨0,⟨by omega,rfl⟩,?_⟩,λk hJ=>?_⟩
  ·exact Vq [some _]
  obtain⟨hJ1,hJ2⟩:=hJ
  refine Wk ?_
  rw [aA]
  refine aC (λh5=>?_) (λh5=>?_)<;> try simp only [zD,zA,zF,zE,zG] at h5
  ·have h5:k<z.free.length:=by simp at h5;omega
   refine Wk ?_
   first |refine aB (⟨rfl,by omega,by rw [aA];omega⟩) ?_ |refine aH (λ_=>⟨rfl,by omega,by rw [aA];omega⟩) ?_ |refine⟨λ_=>⟨rfl,by omega,by rw [aA];omega⟩,?_⟩
   rw [zC,bN z.free k h5]
   refine Wk ?_
   first |refine aB (⟨rfl,by omega,by rw [aA];omega⟩) ?_ |refine aH (λ_=>⟨rfl,by omega,by rw [aA];omega⟩) ?_ |refine⟨λ_=>⟨rfl,by omega,by rw [aA];omega⟩,?_⟩
   rw [zC,bN z.free k h5]
   refine Wk ?_
   first |refine aB (⟨rfl,by omega,by rw [aA];omega⟩) ?_ |refine aH (λ_=>⟨rfl,by omega,by rw [aA];omega⟩) ?_ |refine⟨λ_=>⟨rfl,by omega,by rw [aA];omega⟩,?_⟩
   rw [zC,bN z.free k h5]
   refine Wk ?_
   rw [vY k (by omega)]
   first |refine aH (λhg=>⟨rfl,?_,?_⟩) ?_ |refine⟨λhg=>⟨rfl,?_,?_⟩,?_⟩
   ·simp only [zO,decide_eq_true_eq] at hg
    rw [pP k (by omega)];omega
   ·rw [pP k (by omega),aA];omega
   rw [bN z.free (k-1) (by omega)]
   refine Wk ?_
   rw [fI,fI]
   refine aC (λh6=>?_) (λh6=>?_)<;> try simp only [zD,zA,zF,zE,zG] at h6
   ·have h6:kL z.first (jH z) z.free k=true:=h6
    rw [bF,hI2,e5,aJG _ _ _ _ k h5 h6] at hk
    have hk:q=false:=by rw [<-hk];rfl
    subst hk
    refine Wk ?_
    try subst hk
    exact Lf
   have h6:kL z.first (jH z) z.free k=false:=h6
   refine Wk ?_
   rw [aR (n:=(k:Int)+1) (by omega) (by omega),show((k:Int)+1)=((k+1:Nat):Int) by omega]
   refine⟨k+1,⟨by omega,by simp only [tU,hJ2,h6];rfl⟩,?_,by show z.free.length- (k+1)<z.free.length-k;omega⟩
   exact Vw [some 0]
  have h5:k=z.free.length:=by simp at h5;omega
  rw [e5,<-h5,hJ2,zM] at hI2
  refine Wk ?_
  rw [aR (n:=f+z.size) (by omega) (by omega),aR (n:=(i:Int)+1) (by omega) (by omega),show((i:Int)+1)=((i+1:Nat):Int) by omega]
  refine⟨(i+1,jH z),⟨by show i+1<=_;omega,e4,hI2⟩,?_,by show l.length- (i+1)<l.length-i;omega⟩
  rw [<-e3]
  exact Vw []
 have h3:i=l.length:=by simp at h3;omega
 rw [h3,zN,uH] at hI2
 rw [bF,hI2,zM] at hk
 refine Wk ?_
 rw [aG]
 subst hk
 refine Wk ?_
 try subst hk
 exact Lf
end Go.Proofs.YtmhapcbjjpadnaaGreat
namespace Go.Proofs.YtmhapcbjjpadnaaGreat
open Go Go.Sk Go.RowKit
def gF(z:Zn):Zn:=⟨z.first,z.size,z.min,z.low,z.high,z.free,true⟩
def jF(l:List Zn)(i:Nat):List Zn:=(l.take i).map gF++l.drop i
theorem qA(l:List Zn)(i:Nat):(jF l i).length=l.length:=by simp [jF];omega
theorem aMO(l:List Zn)(i:Nat)(h:i<l.length):(jF l i)[i]'(by rw [qA];exact h)=l[i]:=by
 have hl:((l.take i).map gF).length=i:=by simp;omega
 simp only [jF]
 rw [List.getElem_append_right (by omega)]
 simp only [hl,Nat.sub_self,List.getElem_drop,Nat.add_zero]
theorem aMP(l:List Zn)(i:Nat)(h:i<l.length):(jF l i).set i (gF l[i])=jF l (i+1):=by
 have hl:((l.take i).map gF).length=i:=by simp;omega
 simp only [jF]
 rw [List.set_append_right _ _ (by omega),hl,Nat.sub_self,zI h,List.set_cons_zero,List.take_succ_eq_append_getElem h,List.map_append,List.append_assoc]
 rfl
theorem aMN(l:List Zn):jF l l.length=l.map gF:=by simp [jF]
theorem aJQ(l:List Zn):jF l 0=l:=by simp [jF]
theorem aD6(L:List Zn)(i:Nat)(h:i<L.length)(f:List Int)(e:Bool):
 (aQ L).set i (aU 6 ((aQ L).getD i []) 5 [.lst 1 e (aE f)])=aQ (L.set i ⟨(L[i]'h).first,(L[i]'h).size,(L[i]'h).min,(L[i]'h).low,(L[i]'h).high,f,e⟩):=by
 rw [eK L i h,aQ,aQ,List.map_set]
 rfl
theorem aXS {rows:List (List V)} {n:Nat} {z:List V} (h:rows.length=n):(List.replicate n z).take 0++rows.take (min rows.length n)++(List.replicate n z).drop (0+min rows.length n)=rows:=by
 subst h
 simp
theorem bBA(l:List Zn)(t:Bool)(hl:eV l):aM Tryz.prog 210 [] [.lst 6 t (aQ l)] (.sl 0 0 l.length) [.row 6 (aQ (l.map gF))]:=by
 have hlen:=hl.len
 refine aF (ob0:= []) [.r 26] Tryz.func210 rfl rfl rfl rfl ?_
 refine Wk ?_
 refine .inr ⟨λ_=>⟨[],_,_,_,aUQ (aQ l) t (by rw [aG];omega),trivial,rfl,rfl,rfl,?_⟩,(by intro h;cases h)⟩
 rw [aG]
 refine Wk ?_
 refine⟨Nat,λi=>i<=l.length,λi=>⟨[(0,⟨[],true,.lst 6 t (aQ l)⟩),(3,⟨[],true,.sl 0 0 l.length⟩),(9,⟨[],true,.int .i64 (l.length:Int)⟩),(10,⟨[],true,.int .i64 (i:Int)⟩)],[(0,.row 6 (aQ (jF l i)))],1⟩,λi=>l.length-i,⟨0,by omega,?_⟩,λi hI=>?_⟩
 ·exact Vw [some 0]
  try rw [aJQ]
 have hI:i<=l.length:=hI
 refine Wk ?_
 refine aC (λh3=>?_) (λh3=>?_)<;> try simp only [zD,zA,zF,zE,zG] at h3
 ·have h3:i<l.length:=by simp at h3;omega
  have hf:=hl.free _ (zJ h3)
  refine Wk ?_
  first |refine aB (⟨rfl,by omega,by rw [aG];omega⟩) ?_ |refine aH (λ_=>⟨rfl,by omega,by rw [aG];omega⟩) ?_ |refine⟨λ_=>⟨rfl,by omega,by rw [aG];omega⟩,?_⟩
  rw [zC,eK l i h3]
  generalize hz:l[i]=z at hf
  refine Wk ?_
  rw [aA]
  refine Wk ?_
  first |refine aGW (by omega) (by omega) (by omega) (by omega) ?_ |refine aB ⟨by omega,by omega,by omega,by omega⟩ ?_ |refine⟨by omega,by omega,by omega,by omega,?_⟩
  rw [zC]
  refine Wk ?_
  refine⟨Unit,λ_=>True,λ_=>⟨[(0,⟨[],true,.lst 6 t (aQ l)⟩),(3,⟨[],true,.sl 0 0 l.length⟩),(4,⟨[],true,.int .i64 (i:Int)⟩),(5,⟨[],true,.lst 1 true (aE z.free)⟩),(9,⟨[],true,.int .i64 (l.length:Int)⟩),(10,⟨[],true,.int .i64 (i:Int)⟩)],[(0,.row 6 (aQ (jF l i)))],1⟩,?_,λ_ _=>?_⟩
  ·refine Wk ?_
   first |refine aB (⟨rfl,by omega,by rw [aG];omega⟩) ?_ |refine aH (λ_=>⟨rfl,by omega,by rw [aG];omega⟩) ?_ |refine⟨λ_=>⟨rfl,by omega,by rw [aG];omega⟩,?_⟩
   rw [zC,eK l i h3,hz]
   refine Wk ?_
   first |refine aB (by simp) ?_ |refine⟨by simp,?_⟩
   rw [aXS (aA _)]
   refine Wk ?_
   refine⟨(),trivial,?_⟩
   refine bX [some 0] rfl rfl ?_ rfl ?_ rfl ?_
   repeat' (first |exact trivial |rfl |exact .inl rfl |exact .inr rfl |exact id |exact(λh=>Bool.noConfusion h)|refine And.intro ?_ ?_)
   ·exact λ_=>rfl
   ·show 0+z.free.length<=(aE z.free).length
    rw [aA];omega
   ·exact dB (aA _)
  ·refine Wk ?_
   first |refine aB (⟨by omega,by omega⟩) ?_ |refine aH (λ_=>⟨by omega,by omega⟩) ?_ |refine⟨λ_=>⟨by omega,by omega⟩,?_⟩
   refine Wk ?_
   first |refine aB (by rw [aG,qA];omega) ?_ |refine⟨by rw [aG,qA];omega,?_⟩
   refine Wk ?_
   rw [zC,zK,aR (n:=(i:Int)+1) (by omega) (by omega),show((i:Int)+1)=((i+1:Nat):Int) by omega]
   refine⟨i+1,by show i+1<=_;omega,?_,by show l.length- (i+1)<l.length-i;omega⟩
   refine bX [some 0] rfl rfl ?_ rfl ?_ rfl ?_
   repeat' (first |exact trivial |rfl |exact .inl rfl |exact .inr rfl |exact id |exact(λh=>Bool.noConfusion h)|refine And.intro ?_ ?_)
   refine(aD6 (jF l i) i (by rw [qA];exact h3) z.free true).trans ?_
   rw [aMO l i h3,<-aMP l i h3,hz]
   rfl
 have h3:i=l.length:=by simp at h3;omega
 subst h3
 rw [aMN]
 refine Wk ?_
 try subst hk
 exact⟨[some 0],Cl,rfl,Cl,rfl,Cl⟩
end Go.Proofs.YtmhapcbjjpadnaaGreat
namespace Go.Proofs.YtmhapcbjjpadnaaGreat
open Go Go.Sk Go.RowKit
structure aJ7(z:Zn):Prop where
 first :1<=z.first
 size:1<=z.size/\z.size<=64
 stop:z.first+z.size<=65
 marks:0<=z.min/\z.min<=z.low/\z.low<=z.high/\z.high<=z.size
 asc:tU z.first (z.first+z.size) z.free z.free.length=true
theorem qR {z:Zn} {f:Int} (hf:1<=f/\f<=65)(h:iR z f=true):aJ7 z/\z.first=f/\jH z=f+z.size:=by
 rw [iR] at h
 cases h1:iM z f with
 |true=>rw [h1] at h;cases h
 |false=>
  cases h2:jL z with
  |true=>rw [h1,h2] at h;cases h
  |false=>
   rw [h1,h2] at h
   simp only [cond_false] at h
   simp only [iM,zH,decide_eq_false_iff_not,bne_eq_false_iff_eq] at h1
   simp only [jL,zH,decide_eq_false_iff_not] at h2
   have he:jH z=z.first+z.size:=by rw [jH,aR (by omega) (by omega)]
   rw [he] at h h1
   exact⟨⟨by omega,by omega,by omega,by omega,h⟩,by omega,by omega⟩
theorem aFQ:∀(l:List Zn) (f:Int),1<=f/\f<=65->uH f l=true->∀z∈l,aJ7 z
 | [],_,_,_=>by simp
 |z::r,f,hf,h=>by
  simp only [uH,zO] at h
  obtain⟨g,h1,h2⟩:=qR hf h.1
  have :=g.stop
  have :=g.size
  intro y hy
  rcases List.mem_cons.1 hy with rfl |hy
  ·exact g
  ·exact aFQ r _ (by omega) h.2 y hy
theorem pY {l:List Zn} (h:bF l=true):∀z∈l,aJ7 z:=by
 simp only [bF,zO] at h
 exact aFQ l 1 (by decide) h.1
def jP(g:Zn->Int):List Zn->Int
 | []=>0
 |z::r=>g z+jP g r
def nJ(z:Zn):Int:=z.free.length
def bKY(z:Zn):Int:=max 0 (z.high-z.free.length)
def aG1(l:List Zn):Int:=bif bF l then jP nJ l else 0
def bOB(l:List Zn):Int:=bif bF l then jP bKY l else 0
def bLZ(z:Zn):Bool:=decide ((z.free.length:Int)<z.low)
def bOQ(l:List Zn):Bool:=bif bF l then decide (0<=dR bLZ l) else false
theorem aTP {l:List Zn} (hl:eV l) {i:Nat} (h:i<l.length):0<=nJ l[i]/\nJ l[i]<=100000:=by
 have :=hl.free _ (zJ h);unfold nJ;omega
theorem bH9(l:List Zn)(t:Bool)(hl:eV l):aM Tryz.prog 114 [] [.lst 6 t (aQ l)] (.int .i64 (aG1 l)) []:=by
 have hlen:=hl.len
 refine aF (ob0:= []) [] Tryz.func114 rfl rfl rfl rfl ?_
 generalize hk:aG1 l=q
 refine cC (aUY l t hl) ?_
 first |refine aC (λh1=>?_) (λh1=>?_)|refine⟨λh1=>?_,λh1=>?_⟩
 case' refine_2=>
  simp only [aG1,h1,cond_false] at hk
  subst hk
  refine Wk ?_
  try subst hk
  exact Lf
 simp only [aG1,h1,cond_true] at hk
 refine Wk ?_
 refine⟨Nat×Int,λp=>p.1<=l.length/\p.2+jP nJ (l.drop p.1)=q/\0<=p.2/\p.2<=100000*(p.1:Int),λp=>⟨[(0,⟨[],true,.lst 6 t (aQ l)⟩),(2,⟨[],true,.int .i64 0⟩),(3,⟨[],true,.int .i64 p.2⟩),(4,⟨[],true,.int .i64 (p.1:Int)⟩)],[],0⟩,λp=>l.length-p.1,⟨(0,0),⟨by simp,by simpa using hk,by simp,by simp⟩,?_⟩,λp hI=>?_⟩
 ·exact Vw []
 obtain⟨i,s⟩:=p
 obtain⟨hI1,hI2,hI3,hI4⟩:=hI
 simp only at hI1 hI2 hI3 hI4
 refine Wk ?_
 rw [aG]
 refine aC (λh3=>?_) (λh3=>?_)<;> try simp only [zD,zA,zF,zE,zG] at h3
 ·have h3:i<l.length:=by simp at h3;omega
  have hf:=aTP hl h3
  have hst:jP nJ (l.drop i)=nJ l[i]+jP nJ (l.drop (i+1)):=by rw [zI h3];rfl
  rw [hst] at hI2
  refine Wk ?_
  first |refine aB (⟨rfl,by omega,by rw [aG];omega⟩) ?_ |refine aH (λ_=>⟨rfl,by omega,by rw [aG];omega⟩) ?_ |refine⟨λ_=>⟨rfl,by omega,by rw [aG];omega⟩,?_⟩
  rw [zC,eK l i h3]
  generalize l[i]=z at hI2 hf
  refine Wk ?_
  rw [aA]
  unfold nJ at hI2 hf
  rw [aR (n:=s+(z.free.length:Int)) (by omega) (by omega),aR (n:=(i:Int)+1) (by omega) (by omega),show((i:Int)+1)=((i+1:Nat):Int) by omega]
  refine⟨(i+1,s+(z.free.length:Int)),⟨by show i+1<=_;omega,by show s+(z.free.length:Int)+jP nJ (l.drop (i+1))=q;unfold nJ;omega,by show 0<=s+(z.free.length:Int);omega,by show s+(z.free.length:Int)<=100000*((i+1:Nat):Int);omega⟩,?_,by show l.length- (i+1)<l.length-i;omega⟩
  exact Vw []
 have h3:i=l.length:=by simp at h3;omega
 rw [h3,zN,jP,Int.add_zero] at hI2
 subst hI2
 refine Wk ?_
 try subst hk
 exact Lf
def inG(f:Int)(z:Zn):Bool:=bif decide (z.first<=f) then decide (f<jH z) else false
theorem bIU(z:Zn)(f:Int):aM Tryz.prog 318 [] [.agg z.c,.rp 1 [.int .i64 f] 0] (.bool (inG f z)) []:=by
 refine aF (ob0:= []) [] Tryz.func318 rfl rfl rfl rfl ?_
 refine cC (aPE z) ?_
 try subst hk
 exact Lf
theorem call58:fY Tryz.prog 318:=⟨_,Tryz.func318,rfl,rfl⟩
end Go.Proofs.YtmhapcbjjpadnaaGreat
namespace Go.Proofs.YtmhapcbjjpadnaaGreat
open Go Go.Sk Go.RowKit
def sD(u:Bool)(z:Zn):Int:=bif u then 0 else z.min
def mT(u:Bool)(z:Zn):Bool:=decide (sD u z< (z.free.length:Int))
def dO(l:List Zn)(u:Bool):Nat->Option Nat
 |0=>none
 |i+1=>bif mT u (l.getD i gD) then some i else dO l u i
def aF9(z:Zn):Zn:=⟨z.first,z.size,z.min,z.low,z.high,z.free.drop 1,false⟩
def cJ(base l:List Zn)(p:Int)(u:Bool):List Zn×Int×Int:=
 bif !bF l then(base,0,1) else bif decide (p<0)||decide ((l.length:Int)<=p) then(base,0,2) else
 match dO l u (p+1).toNat with
 |some i=>(base.set i (aF9 (l.getD i gD)),(l.getD i gD).free.getD 0 0,0)
 |none=>(base,0,3)
theorem uJ(l:List Zn)(i:Nat)(h:i<l.length):l.getD i gD=l[i]:=by simp [List.getD_eq_getElem?_getD,h]
theorem vJ(l:List Zn)(i:Nat)(h:i<l.length):(aQ (l.map gF)).getD i []=(gF l[i]).c:=by
 rw [eK _ i (by simpa using h)];simp
theorem drop1(l:List Int):((aE l).take (aE l).length).drop (1:Int).toNat=aE (l.drop 1):=by
 rw [List.take_length,aE,aE,List.map_drop];rfl
theorem bH5(l:List Zn)(t:Bool)(p:Int)(u:Bool)(hl:eV l):aM Tryz.prog 109 [] [.lst 6 t (aQ l),.int .i64 p,.bool u] (.tup [.lst 6 false (aQ (cJ (l.map gF) l p u).1),.int .i64 (cJ (l.map gF) l p u).2.1,.int .i64 (cJ (l.map gF) l p u).2.2]) []:=by
 have hlen:=hl.len
 refine aF (ob0:= []) [] Tryz.func109 rfl rfl rfl rfl ?_
 generalize hk:cJ (l.map gF) l p u=q
 refine Wk ?_
 refine .inr ⟨λ_=>⟨[],_,_,_,bBA l t hl,trivial,rfl,rfl,rfl,?_⟩,(by intro h;cases h)⟩
 refine cC (aUX l t hl) ?_
 refine aC (λh1=>?_) (λh1=>?_)<;> try simp only [zD,zA,zF,zE,zG] at h1
 ·have h1:(!bF l)=true:=by rw [h1];rfl
  simp only [cJ,h1,cond_true] at hk
  subst hk
  refine Wk ?_
  refine⟨[],trivial,rfl,trivial,rfl,?_⟩
  try subst hk
  repeat' (first |exact trivial |rfl |exact .inl rfl |exact .inr rfl |exact id |exact(λh=>Bool.noConfusion h)|refine And.intro ?_ ?_)
  ·show 0+l.length<=_
   rw [aG];simp
  ·refine dB ?_
   rw [aG];simp
 have h1':bF l=true:=by simpa using h1
 have h1:(!bF l)=false:=by rw [h1'];rfl
 have hg:=pY h1'
 simp only [cJ,h1,cond_false] at hk
 refine Wk ?_
 rw [aG]
 refine aC (λh2=>?_) (λh2=>?_)<;> try simp only [zD,zA,zF,zE,zG] at h2
 ·simp only [h2,cond_true] at hk
  subst hk
  refine Wk ?_
  refine⟨[],trivial,rfl,trivial,rfl,?_⟩
  try subst hk
  repeat' (first |exact trivial |rfl |exact .inl rfl |exact .inr rfl |exact id |exact(λh=>Bool.noConfusion h)|refine And.intro ?_ ?_)
  ·show 0+l.length<=_
   rw [aG];simp
  ·refine dB ?_
   rw [aG];simp
 simp only [h2,cond_false] at hk
 simp only [zH,decide_eq_false_iff_not] at h2
 refine Wk ?_
 refine⟨Int,λi=>(-1<=i/\i<l.length)/\dO l u (i+1).toNat=dO l u (p+1).toNat,λi=>⟨[(2,⟨[],true,.bool u⟩),(9,⟨[],true,.sl 0 0 l.length⟩),(10,⟨[],true,.int .i64 i⟩)],[(0,.row 6 (aQ (l.map gF)))],1⟩,λi=>(i+1).toNat,⟨p,⟨by omega,rfl⟩,?_⟩,λi hI=>?_⟩
 ·exact Vq [some _]
 obtain⟨⟨hI1,hI2⟩,hI3⟩:=hI
 refine Wk ?_
 refine aC (λh3=>?_) (λh3=>?_)<;> try simp only [zD,zA,zF,zE,zG] at h3
 ·have h3:0<=i:=by simpa using h3
  obtain⟨n,rfl⟩:∃n:Nat,i=n:=⟨i.toNat,by omega⟩
  have hn:n<l.length:=by omega
  refine Wk ?_
  first |refine aB (⟨by omega,by omega⟩) ?_ |refine aH (λ_=>⟨by omega,by omega⟩) ?_ |refine⟨λ_=>⟨by omega,by omega⟩,?_⟩
  refine Wk ?_
  first |refine aB (by rw [aG];simp;omega) ?_ |refine aH (λ_=>by rw [aG];simp;omega) ?_ |refine⟨λ_=>by rw [aG];simp;omega,?_⟩
  refine Wk ?_
  rw [zK,zC,vJ l n hn]
  refine Wk ?_
  refine aC (λhu=>?_) (λhu=>?_)<;> try simp only [zD,zA,zF,zE,zG] at hu
  ·refine Wk ?_
   first |refine aB (⟨by omega,by omega⟩) ?_ |refine aH (λ_=>⟨by omega,by omega⟩) ?_ |refine⟨λ_=>⟨by omega,by omega⟩,?_⟩
   refine Wk ?_
   first |refine aB (by rw [aG];simp;omega) ?_ |refine aH (λ_=>by rw [aG];simp;omega) ?_ |refine⟨λ_=>by rw [aG];simp;omega,?_⟩
   refine Wk ?_
   rw [zK,zC,vJ l n hn]
   refine Wk ?_
   rw [aA]
   refine aC (λh4=>?_) (λh4=>?_)<;> try simp only [zD,zA,zF,zE,zG] at h4
   ·have h4:mT u l[n]=true:=by rw [mT,sD,hu];exact h4
    have hpos:0<l[n].free.length:=by
     have :=(hg l[n] (zJ hn)).marks
     simp only [mT,sD,hu,decide_eq_true_eq,cond_true,cond_false] at h4
     omega
    have hst:dO l u (n+1)=some n:=by simp only [dO,uJ l n hn,h4,cond_true]
    rw [<-hI3,show((n:Int)+1).toNat=n+1 by omega,hst] at hk
    simp only [uJ l n hn] at hk
    refine Wk ?_
    first |refine aB (⟨by omega,by omega⟩) ?_ |refine aH (λ_=>⟨by omega,by omega⟩) ?_ |refine⟨λ_=>⟨by omega,by omega⟩,?_⟩
    refine Wk ?_
    first |refine aB (by rw [aG];simp;omega) ?_ |refine aH (λ_=>by rw [aG];simp;omega) ?_ |refine⟨λ_=>by rw [aG];simp;omega,?_⟩
    refine Wk ?_
    rw [zK,zC,vJ l n hn]
    refine Wk ?_
    first |refine aB (⟨rfl,by decide,by rw [aA];show(0:Int)< (l[n].free.length:Int);omega⟩) ?_ |refine aH (λ_=>⟨rfl,by decide,by rw [aA];show(0:Int)< (l[n].free.length:Int);omega⟩) ?_ |refine⟨λ_=>⟨rfl,by decide,by rw [aA];show(0:Int)< (l[n].free.length:Int);omega⟩,?_⟩
    rw [show((0:Int)).toNat=0 from rfl,bN _ 0 (by exact hpos)]
    refine Wk ?_
    first |refine aB (⟨by omega,by omega⟩) ?_ |refine aH (λ_=>⟨by omega,by omega⟩) ?_ |refine⟨λ_=>⟨by omega,by omega⟩,?_⟩
    refine Wk ?_
    first |refine aB (by rw [aG];simp;omega) ?_ |refine aH (λ_=>by rw [aG];simp;omega) ?_ |refine⟨λ_=>by rw [aG];simp;omega,?_⟩
    refine Wk ?_
    rw [zK,zC,vJ l n hn]
    refine Wk ?_
    first |refine aB (⟨.inl rfl,by decide,by rw [aA];show(1:Int)<=(l[n].free.length:Int);omega,zL _⟩) ?_ |refine aH (λ_=>⟨.inl rfl,by decide,by rw [aA];show(1:Int)<=(l[n].free.length:Int);omega,zL _⟩) ?_ |refine⟨λ_=>⟨.inl rfl,by decide,by rw [aA];show(1:Int)<=(l[n].free.length:Int);omega,zL _⟩,?_⟩
    rw [zC,drop1]
    refine Wk ?_
    first |refine aB (⟨by omega,by omega⟩) ?_ |refine aH (λ_=>⟨by omega,by omega⟩) ?_ |refine⟨λ_=>⟨by omega,by omega⟩,?_⟩
    refine Wk ?_
    first |refine aB (by rw [aG];simp;omega) ?_ |refine⟨by rw [aG];simp;omega,?_⟩
    refine Wk ?_
    subst hk
    refine⟨[],trivial,rfl,trivial,rfl,?_⟩
    try subst hk
    repeat' (first |exact trivial |rfl |exact .inl rfl |exact .inr rfl |exact id |exact(λh=>Bool.noConfusion h)|refine And.intro ?_ ?_)
    ·show 0+l.length<=_
     rw [zP,aG];simp
    ·rw [zK,zC]
     refine(congrArg (λr=>List.take l.length (List.drop 0 r)) (aD6 (l.map gF) n (by simp;omega) (l[n].free.drop 1) false)).trans ?_
     refine(dB (by rw [aG];simp)).trans ?_
     simp only [zS]
     rfl
    ·exact fI _ 0 hpos
   have h4:mT u l[n]=false:=by rw [mT,sD,hu];exact h4
   have hst:dO l u (n+1)=dO l u n:=by simp only [dO,uJ l n hn,h4,cond_false]
   refine Wk ?_
   rw [aR (n:=(n:Int)-1) (by omega) (by omega)]
   refine⟨(n:Int)-1,⟨by omega,by rw [show((n:Int)-1+1).toNat=n by omega,<-hst,<-hI3,show((n:Int)+1).toNat=n+1 by omega]⟩,?_,by show((n:Int)-1+1).toNat< ((n:Int)+1).toNat;omega⟩
   exact Vw [some 0]
  refine Wk ?_
  first |refine aB (⟨by omega,by omega⟩) ?_ |refine aH (λ_=>⟨by omega,by omega⟩) ?_ |refine⟨λ_=>⟨by omega,by omega⟩,?_⟩
  refine Wk ?_
  first |refine aB (by rw [aG];simp;omega) ?_ |refine aH (λ_=>by rw [aG];simp;omega) ?_ |refine⟨λ_=>by rw [aG];simp;omega,?_⟩
  refine Wk ?_
  rw [zK,zC,vJ l n hn]
  refine Wk ?_
  rw [aA]
  refine aC (λh4=>?_) (λh4=>?_)<;> try simp only [zD,zA,zF,zE,zG] at h4
  ·have h4:mT u l[n]=true:=by rw [mT,sD,hu];exact h4
   have hpos:0<l[n].free.length:=by
    have :=(hg l[n] (zJ hn)).marks
    simp only [mT,sD,hu,decide_eq_true_eq,cond_true,cond_false] at h4
    omega
   have hst:dO l u (n+1)=some n:=by simp only [dO,uJ l n hn,h4,cond_true]
   rw [<-hI3,show((n:Int)+1).toNat=n+1 by omega,hst] at hk
   simp only [uJ l n hn] at hk
   refine Wk ?_
   first |refine aB (⟨by omega,by omega⟩) ?_ |refine aH (λ_=>⟨by omega,by omega⟩) ?_ |refine⟨λ_=>⟨by omega,by omega⟩,?_⟩
   refine Wk ?_
   first |refine aB (by rw [aG];simp;omega) ?_ |refine aH (λ_=>by rw [aG];simp;omega) ?_ |refine⟨λ_=>by rw [aG];simp;omega,?_⟩
   refine Wk ?_
   rw [zK,zC,vJ l n hn]
   refine Wk ?_
   first |refine aB (⟨rfl,by decide,by rw [aA];show(0:Int)< (l[n].free.length:Int);omega⟩) ?_ |refine aH (λ_=>⟨rfl,by decide,by rw [aA];show(0:Int)< (l[n].free.length:Int);omega⟩) ?_ |refine⟨λ_=>⟨rfl,by decide,by rw [aA];show(0:Int)< (l[n].free.length:Int);omega⟩,?_⟩
   rw [show((0:Int)).toNat=0 from rfl,bN _ 0 (by exact hpos)]
   refine Wk ?_
   first |refine aB (⟨by omega,by omega⟩) ?_ |refine aH (λ_=>⟨by omega,by omega⟩) ?_ |refine⟨λ_=>⟨by omega,by omega⟩,?_⟩
   refine Wk ?_
   first |refine aB (by rw [aG];simp;omega) ?_ |refine aH (λ_=>by rw [aG];simp;omega) ?_ |refine⟨λ_=>by rw [aG];simp;omega,?_⟩
   refine Wk ?_
   rw [zK,zC,vJ l n hn]
   refine Wk ?_
   first |refine aB (⟨.inl rfl,by decide,by rw [aA];show(1:Int)<=(l[n].free.length:Int);omega,zL _⟩) ?_ |refine aH (λ_=>⟨.inl rfl,by decide,by rw [aA];show(1:Int)<=(l[n].free.length:Int);omega,zL _⟩) ?_ |refine⟨λ_=>⟨.inl rfl,by decide,by rw [aA];show(1:Int)<=(l[n].free.length:Int);omega,zL _⟩,?_⟩
   rw [zC,drop1]
   refine Wk ?_
   first |refine aB (⟨by omega,by omega⟩) ?_ |refine aH (λ_=>⟨by omega,by omega⟩) ?_ |refine⟨λ_=>⟨by omega,by omega⟩,?_⟩
   refine Wk ?_
   first |refine aB (by rw [aG];simp;omega) ?_ |refine⟨by rw [aG];simp;omega,?_⟩
   refine Wk ?_
   subst hk
   refine⟨[],trivial,rfl,trivial,rfl,?_⟩
   try subst hk
   repeat' (first |exact trivial |rfl |exact .inl rfl |exact .inr rfl |exact id |exact(λh=>Bool.noConfusion h)|refine And.intro ?_ ?_)
   ·show 0+l.length<=_
    rw [zP,aG];simp
   ·rw [zK,zC]
    refine(congrArg (λr=>List.take l.length (List.drop 0 r)) (aD6 (l.map gF) n (by simp;omega) (l[n].free.drop 1) false)).trans ?_
    refine(dB (by rw [aG];simp)).trans ?_
    simp only [zS]
    rfl
   ·exact fI _ 0 hpos
  have h4:mT u l[n]=false:=by rw [mT,sD,hu];exact h4
  have hst:dO l u (n+1)=dO l u n:=by simp only [dO,uJ l n hn,h4,cond_false]
  refine Wk ?_
  rw [aR (n:=(n:Int)-1) (by omega) (by omega)]
  refine⟨(n:Int)-1,⟨by omega,by rw [show((n:Int)-1+1).toNat=n by omega,<-hst,<-hI3,show((n:Int)+1).toNat=n+1 by omega]⟩,?_,by show((n:Int)-1+1).toNat< ((n:Int)+1).toNat;omega⟩
  exact Vw [some 0]
 have h3:i= -1:=by simp at h3;omega
 subst h3
 rw [<-hI3] at hk
 have hk:(l.map gF,(0:Int),(3:Int))=q:=hk
 subst hk
 refine Wk ?_
 refine⟨[],trivial,rfl,trivial,rfl,?_⟩
 try subst hk
 repeat' (first |exact trivial |rfl |exact .inl rfl |exact .inr rfl |exact id |exact(λh=>Bool.noConfusion h)|refine And.intro ?_ ?_)
 ·show 0+l.length<=_
  rw [aG];simp
 ·refine dB ?_
  rw [aG];simp
theorem bBB(l:List Zn)(t:Bool)(i:Nat)(z:Zn)(hi:i<l.length)(hl:l.length<=100000):aM Tryz.prog 213 [] [.lst 6 t (aQ l),.int .i64 i,.agg z.c] (.lst 6 false (aQ (l.set i z))) []:=by
 refine aF (ob0:= []) [] Tryz.func213 rfl rfl rfl rfl ?_
 generalize hk:l.set i z=q
 refine Wk ?_
 rw [aG]
 first |refine bG (by omega) (by omega) ?_ |refine aB ⟨by omega,by omega⟩ ?_ |refine⟨by omega,by omega,?_⟩
 refine Wk ?_
 first |refine aB (⟨by omega,by omega⟩) ?_ |refine aH (λ_=>⟨by omega,by omega⟩) ?_ |refine⟨λ_=>⟨by omega,by omega⟩,?_⟩
 refine Wk ?_
 first |refine aB (by rw [aG];omega) ?_ |refine⟨by rw [aG];omega,?_⟩
 refine Wk ?_
 subst hk
 refine⟨[],trivial,rfl,trivial,rfl,?_⟩
 try subst hk
 repeat' (first |exact trivial |rfl |exact .inl rfl |exact .inr rfl |exact id |exact(λh=>Bool.noConfusion h)|refine And.intro ?_ ?_)
 ·show 0+l.length<=_
  rw [zP,aG];omega
 ·rw [zK,zC]
  refine(dB (by rw [zP,aG])).trans ?_
  rw [aQ,aQ,List.map_set]
  rfl
end Go.Proofs.YtmhapcbjjpadnaaGreat
namespace Go.Proofs.YtmhapcbjjpadnaaGreat
open Go Go.Sk Go.RowKit
theorem aKD {z:Zn} (g:aJ7 z)(u:Bool):(decide (z.min< (z.free.length:Int))||(u&&decide (0< (z.free.length:Int))))=mT u z:=by
 have :=g.marks
 cases u with
 |false=>exact Bool.or_false _
 |true=>
  show(decide (z.min< (z.free.length:Int))||(true&&decide (0< (z.free.length:Int))))=decide ((0:Int)< (z.free.length:Int))
  rw [Bool.eq_iff_iff]
  simp only [zM,zQ,decide_eq_true_eq]
  omega
theorem aTS {z:Zn} (g:aJ7 z) {u:Bool} (h:mT u z=true):0<z.free.length:=by
 have :=g.marks
 cases u with
 |false=>
  have :z.min< (z.free.length:Int):=of_decide_eq_true h
  omega
 |true=>
  have :(0:Int)< (z.free.length:Int):=of_decide_eq_true h
  omega
theorem bH6(l:List Zn)(t:Bool)(p:Int)(u:Bool)(hl:eV l):aM Tryz.prog 110 [] [.lst 6 t (aQ l),.int .i64 p,.bool u] (.tup [.lst 6 false (aQ (cJ l l p u).1),.int .i64 (cJ l l p u).2.1,.int .i64 (cJ l l p u).2.2]) []:=by
 have hlen:=hl.len
 refine aF (ob0:= []) [.r 57] Tryz.func110 rfl rfl rfl rfl ?_
 generalize hk:cJ l l p u=q
 refine cC (aUY l t hl) ?_
 refine aC (λh1=>?_) (λh1=>?_)<;> try simp only [zD,zA,zF,zE,zG] at h1
 ·have h1:(!bF l)=true:=by rw [h1];rfl
  simp only [cJ,h1,cond_true] at hk
  subst hk
  refine Wk ?_
  try subst hk
  exact Lf
 have h1':bF l=true:=by simpa using h1
 have h1:(!bF l)=false:=by rw [h1'];rfl
 have hg:=pY h1'
 simp only [cJ,h1,cond_false] at hk
 refine Wk ?_
 rw [aG]
 refine aC (λh2=>?_) (λh2=>?_)<;> try simp only [zD,zA,zF,zE,zG] at h2
 ·simp only [h2,cond_true] at hk
  subst hk
  refine Wk ?_
  try subst hk
  exact Lf
 simp only [h2,cond_false] at hk
 simp only [zH,decide_eq_false_iff_not] at h2
 refine Wk ?_
 refine⟨Int,λi=>(-1<=i/\i<l.length)/\dO l u (i+1).toNat=dO l u (p+1).toNat,λi=>⟨[(0,⟨[],true,.lst 6 t (aQ l)⟩),(2,⟨[],true,.bool u⟩),(9,⟨[],true,.int .i64 i⟩)],[],0⟩,λi=>(i+1).toNat,⟨p,⟨by omega,rfl⟩,?_⟩,λi hI=>?_⟩
 ·exact Vw []
 obtain⟨⟨hI1,hI2⟩,hI3⟩:=hI
 refine Wk ?_
 refine aC (λh3=>?_) (λh3=>?_)<;> try simp only [zD,zA,zF,zE,zG] at h3
 ·have h3:0<=i:=by simpa using h3
  obtain⟨n,rfl⟩:∃n:Nat,i=n:=⟨i.toNat,by omega⟩
  have hn:n<l.length:=by omega
  have hgn:=hg l[n] (zJ hn)
  have hfn:=hl.free l[n] (zJ hn)
  refine Wk ?_
  first |refine aB (⟨rfl,by omega,by rw [aG];omega⟩) ?_ |refine aH (λ_=>⟨rfl,by omega,by rw [aG];omega⟩) ?_ |refine⟨λ_=>⟨rfl,by omega,by rw [aG];omega⟩,?_⟩
  rw [zC,eK l n hn]
  obtain⟨z,hz⟩:∃z,l[n]=z:=⟨_,rfl⟩
  rw [hz] at hgn hfn⊢
  have hm:=hgn.marks
  refine Wk ?_
  rw [aA]
  refine Wk ?_
  refine aC (λh4=>?_) (λh4=>?_)<;> try simp only [zD,zA,zF,zE,zG] at h4
  ·rw [aKD hgn u] at h4
   have hpos:0<z.free.length:=aTS hgn h4
   have hst:dO l u (n+1)=some n:=by simp only [dO,uJ l n hn,hz,h4,cond_true]
   rw [<-hI3,show((n:Int)+1).toNat=n+1 by omega,hst] at hk
   simp only [uJ l n hn,hz] at hk
   refine Wk ?_
   first |refine aB (⟨rfl,by decide,by rw [aA];omega⟩) ?_ |refine aH (λ_=>⟨rfl,by decide,by rw [aA];omega⟩) ?_ |refine⟨λ_=>⟨rfl,by decide,by rw [aA];omega⟩,?_⟩
   rw [show((0:Int)).toNat=0 from rfl,bN _ 0 hpos]
   refine Wk ?_
   refine⟨Unit,λ_=>True,λ_=>⟨[(0,⟨[],true,.lst 6 t (aQ l)⟩),(9,⟨[],true,.int .i64 (n:Int)⟩),(10,⟨[],true,.ptr 0 0 0⟩),(11,⟨[],true,.int .i64 z.free[0]⟩)],[(0,.box (aF9 z).c)],1⟩,?_,λ_ _=>?_⟩
   ·refine Wk ?_
    first |refine aB (⟨.inl rfl,by decide,by rw [aA];omega,zL _⟩) ?_ |refine aH (λ_=>⟨.inl rfl,by decide,by rw [aA];omega,zL _⟩) ?_ |refine⟨λ_=>⟨.inl rfl,by decide,by rw [aA];omega,zL _⟩,?_⟩
    rw [zC,drop1]
    refine Wk ?_
    rw [aA]
    have hdl:(z.free.drop 1).length<=100000:=by simp;omega
    first |refine bG (by omega) (by omega) ?_ |refine aB ⟨by omega,by omega⟩ ?_ |refine⟨by omega,by omega,?_⟩
    refine Wk ?_
    refine⟨(),trivial,?_⟩
    refine bX [some 0] rfl rfl ?_ rfl ?_ rfl ?_
    repeat' (first |exact trivial |rfl |exact .inl rfl |exact .inr rfl |exact id |exact(λh=>Bool.noConfusion h)|refine And.intro ?_ ?_)
    ·show 0+(z.free.drop 1).length<=(aE (z.free.drop 1)).length
     rw [aA];omega
    ·exact dB (aA _)
   ·refine cC (bBB l t n (aF9 z) hn hlen) ?_
    subst hk
    refine⟨[],trivial,rfl,trivial,rfl,?_⟩
    try subst hk
    repeat' (first |exact trivial |rfl |exact .inl rfl |exact .inr rfl |exact id |exact(λh=>Bool.noConfusion h)|refine And.intro ?_ ?_)
    exact fI _ 0 hpos
  rw [aKD hgn u] at h4
  have hst:dO l u (n+1)=dO l u n:=by simp only [dO,uJ l n hn,hz,h4,cond_false]
  refine Wk ?_
  rw [aR (n:=(n:Int)-1) (by omega) (by omega)]
  refine⟨(n:Int)-1,⟨by omega,by rw [show((n:Int)-1+1).toNat=n by omega,<-hst,<-hI3,show((n:Int)+1).toNat=n+1 by omega]⟩,?_,by show((n:Int)-1+1).toNat< ((n:Int)+1).toNat;omega⟩
  exact Vw []
 have h3:i= -1:=by simp at h3;omega
 subst h3
 rw [<-hI3] at hk
 have hk:(l,(0:Int),(3:Int))=q:=hk
 subst hk
 refine Wk ?_
 try subst hk
 exact Lf
end Go.Proofs.YtmhapcbjjpadnaaGreat
namespace Go.Proofs.YtmhapcbjjpadnaaGreat
open Go Go.Sk Go.RowKit
def aE2(x y:Zn):Bool:=((((x.first != y.first||x.size != y.size)||x.min != y.min)||x.low != y.low)||x.high != y.high)||((x.free.length:Int) != (y.free.length:Int))
def eqZ(x y:Zn):Bool:= !aE2 x y&&decide (x.free=y.free)
def nT:List Zn->List Zn->Bool
 | [],[]=>true
 |x::a,y::b=>eqZ x y&&nT a b
 |_,_=>false
theorem aGZ:∀(a b:List Zn),a.length≠b.length->nT a b=false
 | [],[],h=>absurd rfl h
 | [],_::_,_=>rfl
 |_::_,[],_=>rfl
 |x::a,y::b,h=>by
  simp only [nT,aGZ a b (by simpa using h),Bool.and_false]
theorem aY7(x y:Zn):eqZ x y=true↔x.first=y.first/\x.size=y.size/\x.min=y.min/\x.low=y.low/\x.high=y.high/\x.free=y.free:=by
 simp only [eqZ,aE2,zO,zF,zH,bne_eq_false_iff_eq,decide_eq_true_eq]
 constructor
 ·rintro ⟨⟨⟨⟨⟨⟨h1,h2⟩,h3⟩,h4⟩,h5⟩,-⟩,h6⟩;exact⟨h1,h2,h3,h4,h5,h6⟩
 ·rintro ⟨h1,h2,h3,h4,h5,h6⟩;exact⟨⟨⟨⟨⟨⟨h1,h2⟩,h3⟩,h4⟩,h5⟩,by rw [h6]⟩,h6⟩
theorem aGY:∀(a b:List Zn),nT a b=true↔a.length=b.length/\∀i (h:i<a.length) (h':i<b.length),eqZ a[i] b[i]=true
 | [],[]=>by simp [nT]
 | [],_::_=>by simp [nT]
 |_::_,[]=>by simp [nT]
 |x::a,y::b=>by
  simp only [nT,zO,aGY a b,List.length_cons]
  constructor
  ·rintro ⟨h1,h2,h3⟩
   refine⟨by omega,λi h h'=>?_⟩
   cases i with
   |zero=>exact h1
   |succ i=>exact h3 i (by omega) (by omega)
  ·rintro ⟨h1,h2⟩
   exact⟨h2 0 (by omega) (by omega),by omega,λi h h'=>h2 (i+1) (by omega) (by omega)⟩
theorem bMT(a b:List Zn)(ta tb:Bool)(ha:eV a)(hb:eV b):aM Tryz.prog 89 [] [.lst 6 ta (aQ a),.lst 6 tb (aQ b)] (.bool (nT a b)) []:=by
 have hla:=ha.len
 have hlb:=hb.len
 refine aF (ob0:= []) [] Tryz.func89 rfl rfl rfl rfl ?_
 generalize hk:nT a b=q
 refine Wk ?_
 rw [aG,aG]
 refine aC (λh1=>?_) (λh1=>?_)<;> try simp only [zD,zA,zF,zE,zG] at h1
 ·have h1:a.length≠b.length:=by simp at h1;omega
  rw [aGZ a b h1] at hk
  subst hk
  refine Wk ?_
  try subst hk
  exact Lf
 have h1:a.length=b.length:=by simp at h1;omega
 refine Wk ?_
 refine⟨Nat,λi=>i<=a.length/\nT (a.drop i) (b.drop i)=q,λi=>⟨[(0,⟨[],true,.lst 6 ta (aQ a)⟩),(1,⟨[],true,.lst 6 tb (aQ b)⟩),(4,⟨[],true,.bool false⟩),(5,⟨[],true,.int .i64 (i:Int)⟩)],[],0⟩,λi=>a.length-i,⟨0,⟨by omega,hk⟩,?_⟩,λi hI=>?_⟩
 ·exact Vw []
 obtain⟨hI1,hI2⟩:=hI
 refine Wk ?_
 rw [aG]
 refine aC (λh2=>?_) (λh2=>?_)<;> try simp only [zD,zA,zF,zE,zG] at h2
 ·have h2:i<a.length:=by simp at h2;omega
  have h2b:i<b.length:=by omega
  rw [zI h2,zI h2b,nT] at hI2
  have hfa:=ha.free a[i] (zJ h2)
  have hfb:=hb.free b[i] (zJ h2b)
  refine Wk ?_
  first |refine aB (⟨rfl,by omega,by rw [aG];omega⟩) ?_ |refine aH (λ_=>⟨rfl,by omega,by rw [aG];omega⟩) ?_ |refine⟨λ_=>⟨rfl,by omega,by rw [aG];omega⟩,?_⟩
  rw [zC,eK a i h2]
  refine Wk ?_
  first |refine aB (⟨rfl,by omega,by rw [aG];omega⟩) ?_ |refine aH (λ_=>⟨rfl,by omega,by rw [aG];omega⟩) ?_ |refine⟨λ_=>⟨rfl,by omega,by rw [aG];omega⟩,?_⟩
  rw [zC,eK b i h2b]
  generalize a[i]=x at hI2 hfa
  generalize b[i]=y at hI2 hfb
  refine Wk ?_
  rw [aA,aA]
  refine Wk ?_
  refine aC (λh3=>?_) (λh3=>?_)<;> try simp only [zD,zA,zF,zE,zG] at h3
  ·have h3:aE2 x y=true:=h3
   rw [eqZ,h3] at hI2
   have hI2:false=q:=hI2
   subst hI2
   refine Wk ?_
   try subst hk
   exact Lf
  have h3:aE2 x y=false:=h3
  rw [eqZ,h3,Bool.not_false,zM] at hI2
  have hlen:x.free.length=y.free.length:=by
   simp only [aE2,zH,bne_eq_false_iff_eq] at h3;omega
  refine Wk ?_
  refine⟨Nat,λk=>k<=x.free.length/\∀j (hj:j<k) (h:j<x.free.length) (h':j<y.free.length),x.free[j]=y.free[j],λk=>⟨[(0,⟨[],true,.lst 6 ta (aQ a)⟩),(1,⟨[],true,.lst 6 tb (aQ b)⟩),(4,⟨[],true,.bool false⟩),(5,⟨[],true,.int .i64 (i:Int)⟩),(6,⟨[],true,.ptr 0 0 0⟩),(7,⟨[],true,.ptr 1 0 0⟩),(8,⟨[],true,.int .i64 (k:Int)⟩)],[(0,.box x.c),(1,.box y.c)],2⟩,λk=>x.free.length-k,⟨0,⟨by omega,λj hj=>by omega⟩,?_⟩,λk hJ=>?_⟩
  ·exact Vq [some _,some _]
  obtain⟨hJ1,hJ2⟩:=hJ
  refine Wk ?_
  rw [aA]
  refine aC (λh4=>?_) (λh4=>?_)<;> try simp only [zD,zA,zF,zE,zG] at h4
  ·have h4:k<x.free.length:=by simp at h4;omega
   refine Wk ?_
   first |refine aB (⟨rfl,by omega,by rw [aA];omega⟩) ?_ |refine aH (λ_=>⟨rfl,by omega,by rw [aA];omega⟩) ?_ |refine⟨λ_=>⟨rfl,by omega,by rw [aA];omega⟩,?_⟩
   rw [zC,bN x.free k h4]
   refine Wk ?_
   first |refine aB (⟨rfl,by omega,by rw [aA];omega⟩) ?_ |refine aH (λ_=>⟨rfl,by omega,by rw [aA];omega⟩) ?_ |refine⟨λ_=>⟨rfl,by omega,by rw [aA];omega⟩,?_⟩
   rw [zC,bN y.free k (by omega)]
   refine Wk ?_
   refine aC (λh5=>?_) (λh5=>?_)<;> try simp only [zD,zA,zF,zE,zG] at h5
   ·have h5:x.free[k]≠y.free[k]'(by omega):=by simpa using h5
    have hne:x.free≠y.free:=λe=>h5 (by simp [e])
    rw [decide_eq_false hne,Bool.false_and] at hI2
    subst hI2
    refine Wk ?_
    try subst hk
    exact Lf
   have h5:x.free[k]=y.free[k]'(by omega):=by simpa using h5
   refine Wk ?_
   rw [aR (n:=(k:Int)+1) (by omega) (by omega),show((k:Int)+1)=((k+1:Nat):Int) by omega]
   refine⟨k+1,⟨by omega,λj hj h h'=>?_⟩,?_,by show x.free.length- (k+1)<x.free.length-k;omega⟩
   ·by_cases e:j=k
    ·subst e;exact h5
    ·exact hJ2 j (by omega) h h'
   exact Vw [some 0,some 1]
  have h4:k=x.free.length:=by simp at h4;omega
  have he:x.free=y.free:=List.ext_getElem hlen λj h h'=>hJ2 j (by omega) h h'
  rw [decide_eq_true he,zM] at hI2
  refine Wk ?_
  rw [aR (n:=(i:Int)+1) (by omega) (by omega),show((i:Int)+1)=((i+1:Nat):Int) by omega]
  refine⟨i+1,⟨by omega,hI2⟩,?_,by show a.length- (i+1)<a.length-i;omega⟩
  exact Vw []
 have h2:i=a.length:=by simp at h2;omega
 rw [h2,zN,h1,zN,nT] at hI2
 subst hI2
 refine Wk ?_
 try subst hk
 exact Lf
end Go.Proofs.YtmhapcbjjpadnaaGreat
