/- Caches. -/
import Derived.Test.YtmhapcbjjpadnaaGreatG1
set_option linter.unusedSimpArgs false
set_option linter.unusedVariables false
open Bool renaming cond_false_right→zA,cond_true_left→zD,not_eq_false'→zE,not_eq_true'→zF,not_not→zG,or_eq_false_iff→zH,true_and→zM,and_eq_true→zO,or_eq_true→zQ
open Int renaming toNat_natCast→zC,le_refl→zL
open List renaming drop_eq_getElem_cons→zI,getElem_mem→zJ,drop_length→zN,length_set→zP,getElem_map→zR
open Nat renaming zero_add→zK
set_option maxRecDepth 40000
namespace Go.Proofs.YtmhapcbjjpadnaaGreat
open Go Go.Sk Go.RowKit
def tG:Int→List Zn→Bool
 |_,[]=>true
 |f,z::r=>iH z f&&tG (iT z) r
def bB(l:List Zn):Bool:=tG 1 l&&decide (0< (l.length:Int))
structure eI(l:List Zn):Prop where
 len:l.length≤100000
 free:∀z∈l,z.free.length≤100000
theorem eI.at {l:List Zn} (h:eI l) {i:Nat} (hi:i<l.length):(l[i].free.length:Int)<2^62:=by
 have :=h.free _ (zJ hi);omega
set_option maxRecDepth 20000 in
theorem aTG(l:List Zn)(t:Bool)(hl:eI l):aN Tryz.prog 211 [] [.lst 6 t (aP l)] (.bool (bB l)) []:=by
 have hlen:=hl.len
 refine aF (ob0:= []) [] Tryz.func211 rfl rfl rfl rfl ?_
 generalize hk:bB l=q
 refine Wk ?_
 rw [aG]
 refine⟨Nat×Int,fun p=>p.1≤l.length∧tG 1 l=tG p.2 (l.drop p.1),fun p=>⟨[(0,⟨[],true,.lst 6 t (aP l)⟩),(2,⟨[],true,.bool false⟩),(3,⟨[],true,.int .i64 p.2⟩),(6,⟨[],true,.lst 6 t (aP l)⟩),(7,⟨[],true,.int .i64 (l.length:Int)⟩),(8,⟨[],true,.int .i64 (p.1:Int)⟩)],[],0⟩,fun p=>l.length-p.1,⟨(0,1),⟨by simp,rfl⟩,?_⟩,fun p hI=>?_⟩
 ·exact Vw []
 obtain⟨i,f⟩:=p
 obtain⟨hI1,hI2⟩:=hI
 simp only at hI1 hI2
 refine Wk ?_
 refine aC (fun h3=>?_) (fun h3=>?_)<;> try simp only [zD,zA,zF,zE,zG] at h3
 ·have h3:i<l.length:=by simp at h3;omega
  rw [zI h3,tG] at hI2
  have hf:=hl.at h3
  refine Wk ?_
  first |refine aB (⟨rfl,by omega,by rw [aG];omega⟩) ?_ |refine aH (fun _=>⟨rfl,by omega,by rw [aG];omega⟩) ?_ |refine⟨fun _=>⟨rfl,by omega,by rw [aG];omega⟩,?_⟩
  rw [zC,dZ l i h3]
  generalize l[i]=z at hI2 hf
  refine cC (bGB z f hf) ?_
  refine aC (fun h4=>?_) (fun h4=>?_)<;> try simp only [zD,zA,zF,zE,zG] at h4
  ·have h4:iH z f=false:=by simpa using h4
   rw [bB,hI2,h4] at hk
   have hk:q=false:=by rw [←hk];rfl
   subst hk
   refine Wk ?_
   try subst hk
   exact Lf
  have h4:iH z f=true:=by simpa using h4
  rw [h4,zM] at hI2
  refine cC (aNX z) ?_
  rw [aO (n:=(i:Int)+1) (by omega) (by omega),show((i:Int)+1)=((i+1:Nat):Int) by omega]
  refine⟨(i+1,iT z),⟨by show i+1≤_;omega,hI2⟩,?_,by show l.length- (i+1)<l.length-i;omega⟩
  exact Vw []
 have h3:i=l.length:=by simp at h3;omega
 rw [h3,zN,tG] at hI2
 rw [bB,hI2,zM] at hk
 refine Wk ?_
 rw [aG]
 subst hk
 refine Wk ?_
 try subst hk
 exact Lf
def aD1(z:Zn)(f:Int):Bool:=(z.first != f||decide (z.size<1))||decide (IntKind.i64.wrap (65-f)<z.size)
def aP6(z:Zn)(f:Int):Bool:=((((aD1 z f||decide (z.min<0))||decide (z.low<z.min))||decide (z.high<z.low))||decide (z.size<z.high))
theorem aVQ(z:Zn)(f:Int)(hf:1≤f∧f≤65)(h:aP6 z f=false):iC z f=false∧iY z=false∧iT z=f+z.size∧1≤iT z∧iT z≤65:=by
 simp only [aP6,aD1,zH,decide_eq_false_iff_not,bne_eq_false_iff_eq] at h
 rw [aO (by omega) (by omega)] at h
 have he:iT z=f+z.size:=by rw [iT,aO (by omega) (by omega)];omega
 refine⟨?_,?_,he,by omega,by omega⟩
 ·simp only [iC,zH,decide_eq_false_iff_not,bne_eq_false_iff_eq];omega
 ·simp only [iY,zH,decide_eq_false_iff_not];omega
theorem aL9(z:Zn)(f:Int)(hf:1≤f∧f≤65)(h:aP6 z f=true):iH z f=false:=by
 rw [iH]
 by_cases h1:iC z f=true
 ·rw [h1];rfl
 ·have h1:iC z f=false:=by simpa using h1
  have h2:iY z=true:=by
   simp only [aP6,aD1,zQ,decide_eq_true_eq,bne_iff_ne] at h
   rw [aO (by omega) (by omega)] at h
   simp only [iC,zH,decide_eq_false_iff_not,bne_eq_false_iff_eq] at h1
   have he:iT z=f+z.size:=by rw [iT,aO (by omega) (by omega)];omega
   simp only [iY,zQ,decide_eq_true_eq]
   omega
  rw [h1,h2];rfl
set_option maxRecDepth 20000 in
set_option maxHeartbeats 8000000 in
theorem aTH(l:List Zn)(t:Bool)(hl:eI l):aN Tryz.prog 212 [] [.lst 6 t (aP l)] (.bool (bB l)) []:=by
 have hlen:=hl.len
 refine aF (ob0:= []) [] Tryz.func212 rfl rfl rfl rfl ?_
 generalize hk:bB l=q
 refine Wk ?_
 refine⟨Nat×Int,fun p=>p.1≤l.length∧(1≤p.2∧p.2≤65)∧tG 1 l=tG p.2 (l.drop p.1),fun p=>⟨[(0,⟨[],true,.lst 6 t (aP l)⟩),(2,⟨[],true,.bool false⟩),(3,⟨[],true,.int .i64 p.2⟩),(4,⟨[],true,.int .i64 (p.1:Int)⟩)],[],0⟩,fun p=>l.length-p.1,⟨(0,1),⟨by simp,by decide,rfl⟩,?_⟩,fun p hI=>?_⟩
 ·exact Vw []
 obtain⟨i,f⟩:=p
 obtain⟨hI1,hI3,hI2⟩:=hI
 simp only at hI1 hI2 hI3
 refine Wk ?_
 rw [aG]
 refine aC (fun h3=>?_) (fun h3=>?_)<;> try simp only [zD,zA,zF,zE,zG] at h3
 ·have h3:i<l.length:=by simp at h3;omega
  rw [zI h3,tG] at hI2
  have hf:=hl.at h3
  refine Wk ?_
  first |refine aB (⟨rfl,by omega,by rw [aG];omega⟩) ?_ |refine aH (fun _=>⟨rfl,by omega,by rw [aG];omega⟩) ?_ |refine⟨fun _=>⟨rfl,by omega,by rw [aG];omega⟩,?_⟩
  rw [zC,dZ l i h3]
  generalize l[i]=z at hI2 hf
  refine Wk ?_
  refine aC (fun h4=>?_) (fun h4=>?_)<;> try simp only [zD,zA,zF,zE,zG] at h4
  ·have h4:aP6 z f=true:=h4
   rw [bB,hI2,aL9 z f hI3 h4] at hk
   have hk:q=false:=by rw [←hk];rfl
   subst hk
   refine Wk ?_
   try subst hk
   exact Lf
  have h4:aP6 z f=false:=h4
  obtain⟨e1,e2,e3,e4⟩:=aVQ z f hI3 h4
  have e5:iH z f=sM z.first (iT z) z.free z.free.length:=by rw [iH,e1,e2];rfl
  refine Wk ?_
  refine⟨Nat,fun k=>k≤z.free.length∧sM z.first (iT z) z.free k=true,fun k=>⟨[(0,⟨[],true,.lst 6 t (aP l)⟩),(2,⟨[],true,.bool false⟩),(3,⟨[],true,.int .i64 f⟩),(4,⟨[],true,.int .i64 (i:Int)⟩),(5,⟨[],true,.ptr 0 0 0⟩),(6,⟨[],true,.int .i64 (k:Int)⟩)],[(0,.box z.c)],1⟩,fun k=>z.free.length-k,⟨0,⟨by omega,rfl⟩,?_⟩,fun k hJ=>?_⟩
  ·exact Vq [some _]
  obtain⟨hJ1,hJ2⟩:=hJ
  refine Wk ?_
  rw [aA]
  refine aC (fun h5=>?_) (fun h5=>?_)<;> try simp only [zD,zA,zF,zE,zG] at h5
  ·have h5:k<z.free.length:=by simp at h5;omega
   refine Wk ?_
   first |refine aB (⟨rfl,by omega,by rw [aA];omega⟩) ?_ |refine aH (fun _=>⟨rfl,by omega,by rw [aA];omega⟩) ?_ |refine⟨fun _=>⟨rfl,by omega,by rw [aA];omega⟩,?_⟩
   rw [zC,bJ z.free k h5]
   refine Wk ?_
   first |refine aB (⟨rfl,by omega,by rw [aA];omega⟩) ?_ |refine aH (fun _=>⟨rfl,by omega,by rw [aA];omega⟩) ?_ |refine⟨fun _=>⟨rfl,by omega,by rw [aA];omega⟩,?_⟩
   rw [zC,bJ z.free k h5]
   refine Wk ?_
   first |refine aB (⟨rfl,by omega,by rw [aA];omega⟩) ?_ |refine aH (fun _=>⟨rfl,by omega,by rw [aA];omega⟩) ?_ |refine⟨fun _=>⟨rfl,by omega,by rw [aA];omega⟩,?_⟩
   rw [zC,bJ z.free k h5]
   refine Wk ?_
   rw [uV k (by omega)]
   first |refine aH (fun hg=>⟨rfl,?_,?_⟩) ?_ |refine⟨fun hg=>⟨rfl,?_,?_⟩,?_⟩
   ·simp only [zO,decide_eq_true_eq] at hg
    rw [oE k (by omega)];omega
   ·rw [oE k (by omega),aA];omega
   rw [bJ z.free (k-1) (by omega)]
   refine Wk ?_
   rw [eY,eY]
   refine aC (fun h6=>?_) (fun h6=>?_)<;> try simp only [zD,zA,zF,zE,zG] at h6
   ·have h6:jS z.first (iT z) z.free k=true:=h6
    rw [bB,hI2,e5,aIE _ _ _ _ k h5 h6] at hk
    have hk:q=false:=by rw [←hk];rfl
    subst hk
    refine Wk ?_
    try subst hk
    exact Lf
   have h6:jS z.first (iT z) z.free k=false:=h6
   refine Wk ?_
   rw [aO (n:=(k:Int)+1) (by omega) (by omega),show((k:Int)+1)=((k+1:Nat):Int) by omega]
   refine⟨k+1,⟨by omega,by simp only [sM,hJ2,h6];rfl⟩,?_,by show z.free.length- (k+1)<z.free.length-k;omega⟩
   exact Vw [some 0]
  have h5:k=z.free.length:=by simp at h5;omega
  rw [e5,←h5,hJ2,zM] at hI2
  refine Wk ?_
  rw [aO (n:=f+z.size) (by omega) (by omega),aO (n:=(i:Int)+1) (by omega) (by omega),show((i:Int)+1)=((i+1:Nat):Int) by omega]
  refine⟨(i+1,iT z),⟨by show i+1≤_;omega,e4,hI2⟩,?_,by show l.length- (i+1)<l.length-i;omega⟩
  rw [←e3]
  exact Vw []
 have h3:i=l.length:=by simp at h3;omega
 rw [h3,zN,tG] at hI2
 rw [bB,hI2,zM] at hk
 refine Wk ?_
 rw [aG]
 subst hk
 refine Wk ?_
 try subst hk
 exact Lf
end Go.Proofs.YtmhapcbjjpadnaaGreat
set_option maxRecDepth 40000
namespace Go.Proofs.YtmhapcbjjpadnaaGreat
open Go Go.Sk Go.RowKit
def gU(z:Zn):Zn:=⟨z.first,z.size,z.min,z.low,z.high,z.free,true⟩
def iR(l:List Zn)(i:Nat):List Zn:=(l.take i).map gU++l.drop i
theorem oN(l:List Zn)(i:Nat):(iR l i).length=l.length:=by simp [iR];omega
theorem aLG(l:List Zn)(i:Nat)(h:i<l.length):(iR l i)[i]'(by rw [oN];exact h)=l[i]:=by
 have hl:((l.take i).map gU).length=i:=by simp;omega
 simp only [iR]
 rw [List.getElem_append_right (by omega)]
 simp only [hl,Nat.sub_self,List.getElem_drop,Nat.add_zero]
theorem aLH(l:List Zn)(i:Nat)(h:i<l.length):(iR l i).set i (gU l[i])=iR l (i+1):=by
 have hl:((l.take i).map gU).length=i:=by simp;omega
 simp only [iR]
 rw [List.set_append_right _ _ (by omega),hl,Nat.sub_self,zI h,List.set_cons_zero,List.take_succ_eq_append_getElem h,List.map_append,List.append_assoc]
 rfl
theorem aLF(l:List Zn):iR l l.length=l.map gU:=by simp [iR]
theorem aIO(l:List Zn):iR l 0=l:=by simp [iR]
theorem aC9(L:List Zn)(i:Nat)(h:i<L.length)(f:List Int)(e:Bool):
 (aP L).set i (aQ 6 ((aP L).getD i []) 5 [.lst 1 e (aE f)])=aP (L.set i ⟨(L[i]'h).first,(L[i]'h).size,(L[i]'h).min,(L[i]'h).low,(L[i]'h).high,f,e⟩):=by
 rw [dZ L i h,aP,aP,List.map_set]
 rfl
theorem aVY {rows:List (List V)} {n:Nat} {z:List V} (h:rows.length=n):(List.replicate n z).take 0++rows.take (min rows.length n)++(List.replicate n z).drop (0+min rows.length n)=rows:=by
 subst h
 simp
set_option maxRecDepth 20000 in
theorem aZG(l:List Zn)(t:Bool)(hl:eI l):aN Tryz.prog 210 [] [.lst 6 t (aP l)] (.sl 0 0 l.length) [.row 6 (aP (l.map gU))]:=by
 have hlen:=hl.len
 refine aF (ob0:= []) [.r 26] Tryz.func210 rfl rfl rfl rfl ?_
 refine Wk ?_
 refine .inr ⟨fun _=>⟨[],_,_,_,aT9 (aP l) t (by rw [aG];omega),trivial,rfl,rfl,rfl,?_⟩,(by intro h;cases h)⟩
 rw [aG]
 refine Wk ?_
 refine⟨Nat,fun i=>i≤l.length,fun i=>⟨[(0,⟨[],true,.lst 6 t (aP l)⟩),(3,⟨[],true,.sl 0 0 l.length⟩),(9,⟨[],true,.int .i64 (l.length:Int)⟩),(10,⟨[],true,.int .i64 (i:Int)⟩)],[(0,.row 6 (aP (iR l i)))],1⟩,fun i=>l.length-i,⟨0,by omega,?_⟩,fun i hI=>?_⟩
 ·exact Vw [some 0]
  try rw [aIO]
 have hI:i≤l.length:=hI
 refine Wk ?_
 refine aC (fun h3=>?_) (fun h3=>?_)<;> try simp only [zD,zA,zF,zE,zG] at h3
 ·have h3:i<l.length:=by simp at h3;omega
  have hf:=hl.free _ (zJ h3)
  refine Wk ?_
  first |refine aB (⟨rfl,by omega,by rw [aG];omega⟩) ?_ |refine aH (fun _=>⟨rfl,by omega,by rw [aG];omega⟩) ?_ |refine⟨fun _=>⟨rfl,by omega,by rw [aG];omega⟩,?_⟩
  rw [zC,dZ l i h3]
  generalize hz:l[i]=z at hf
  refine Wk ?_
  rw [aA]
  refine Wk ?_
  first |refine aFU (by omega) (by omega) (by omega) (by omega) ?_ |refine aB ⟨by omega,by omega,by omega,by omega⟩ ?_ |refine⟨by omega,by omega,by omega,by omega,?_⟩
  rw [zC]
  refine Wk ?_
  refine⟨Unit,fun _=>True,fun _=>⟨[(0,⟨[],true,.lst 6 t (aP l)⟩),(3,⟨[],true,.sl 0 0 l.length⟩),(4,⟨[],true,.int .i64 (i:Int)⟩),(5,⟨[],true,.lst 1 true (aE z.free)⟩),(9,⟨[],true,.int .i64 (l.length:Int)⟩),(10,⟨[],true,.int .i64 (i:Int)⟩)],[(0,.row 6 (aP (iR l i)))],1⟩,?_,fun _ _=>?_⟩
  ·refine Wk ?_
   first |refine aB (⟨rfl,by omega,by rw [aG];omega⟩) ?_ |refine aH (fun _=>⟨rfl,by omega,by rw [aG];omega⟩) ?_ |refine⟨fun _=>⟨rfl,by omega,by rw [aG];omega⟩,?_⟩
   rw [zC,dZ l i h3,hz]
   refine Wk ?_
   first |refine aB (by simp) ?_ |refine⟨by simp,?_⟩
   rw [aVY (aA _)]
   refine Wk ?_
   refine⟨(),trivial,?_⟩
   refine bT [some 0] rfl rfl ?_ rfl ?_ rfl ?_
   repeat' (first |exact trivial |rfl |exact .inl rfl |exact .inr rfl |exact id |exact(fun h=>Bool.noConfusion h)|refine And.intro ?_ ?_)
   ·exact fun _=>rfl
   ·show 0+z.free.length≤(aE z.free).length
    rw [aA];omega
   ·exact cV (aA _)
  ·refine Wk ?_
   first |refine aB (⟨by omega,by omega⟩) ?_ |refine aH (fun _=>⟨by omega,by omega⟩) ?_ |refine⟨fun _=>⟨by omega,by omega⟩,?_⟩
   refine Wk ?_
   first |refine aB (by rw [aG,oN];omega) ?_ |refine⟨by rw [aG,oN];omega,?_⟩
   refine Wk ?_
   rw [zC,zK,aO (n:=(i:Int)+1) (by omega) (by omega),show((i:Int)+1)=((i+1:Nat):Int) by omega]
   refine⟨i+1,by show i+1≤_;omega,?_,by show l.length- (i+1)<l.length-i;omega⟩
   refine bT [some 0] rfl rfl ?_ rfl ?_ rfl ?_
   repeat' (first |exact trivial |rfl |exact .inl rfl |exact .inr rfl |exact id |exact(fun h=>Bool.noConfusion h)|refine And.intro ?_ ?_)
   refine(aC9 (iR l i) i (by rw [oN];exact h3) z.free true).trans ?_
   rw [aLG l i h3,←aLH l i h3,hz]
   rfl
 have h3:i=l.length:=by simp at h3;omega
 subst h3
 rw [aLF]
 refine Wk ?_
 try subst hk
 exact⟨[some 0],Cl,rfl,Cl,rfl,Cl⟩
end Go.Proofs.YtmhapcbjjpadnaaGreat
set_option maxRecDepth 40000
namespace Go.Proofs.YtmhapcbjjpadnaaGreat
open Go Go.Sk Go.RowKit
structure aI6(z:Zn):Prop where
 first :1≤z.first
 size:1≤z.size∧z.size≤64
 stop:z.first+z.size≤65
 marks:0≤z.min∧z.min≤z.low∧z.low≤z.high∧z.high≤z.size
 asc:sM z.first (z.first+z.size) z.free z.free.length=true
theorem pL {z:Zn} {f:Int} (hf:1≤f∧f≤65)(h:iH z f=true):aI6 z∧z.first=f∧iT z=f+z.size:=by
 rw [iH] at h
 cases h1:iC z f with
 |true=>rw [h1] at h;cases h
 |false=>
  cases h2:iY z with
  |true=>rw [h1,h2] at h;cases h
  |false=>
   rw [h1,h2] at h
   simp only [cond_false] at h
   simp only [iC,zH,decide_eq_false_iff_not,bne_eq_false_iff_eq] at h1
   simp only [iY,zH,decide_eq_false_iff_not] at h2
   have he:iT z=z.first+z.size:=by rw [iT,aO (by omega) (by omega)]
   rw [he] at h h1
   exact⟨⟨by omega,by omega,by omega,by omega,h⟩,by omega,by omega⟩
theorem aET:∀(l:List Zn) (f:Int),1≤f∧f≤65→tG f l=true→∀z∈l,aI6 z
 | [],_,_,_=>by simp
 |z::r,f,hf,h=>by
  simp only [tG,zO] at h
  obtain⟨g,h1,h2⟩:=pL hf h.1
  have :=g.stop
  have :=g.size
  intro y hy
  rcases List.mem_cons.1 hy with rfl |hy
  ·exact g
  ·exact aET r _ (by omega) h.2 y hy
theorem oL {l:List Zn} (h:bB l=true):∀z∈l,aI6 z:=by
 simp only [bB,zO] at h
 exact aET l 1 (by decide) h.1
def jD(g:Zn→Int):List Zn→Int
 | []=>0
 |z::r=>g z+jD g r
def mD(z:Zn):Int:=z.free.length
def bI5(z:Zn):Int:=max 0 (z.high-z.free.length)
def aF3(l:List Zn):Int:=bif bB l then jD mD l else 0
def bL9(l:List Zn):Int:=bif bB l then jD bI5 l else 0
def bIX(z:Zn):Bool:=decide ((z.free.length:Int)<z.low)
def bLL(l:List Zn):Bool:=bif bB l then decide (0≤dI bIX l) else false
theorem aS5 {l:List Zn} (hl:eI l) {i:Nat} (h:i<l.length):0≤mD l[i]∧mD l[i]≤100000:=by
 have :=hl.free _ (zJ h);unfold mD;omega
set_option maxRecDepth 20000 in
set_option maxRecDepth 20000 in
theorem bEX(l:List Zn)(t:Bool)(hl:eI l):aN Tryz.prog 114 [] [.lst 6 t (aP l)] (.int .i64 (aF3 l)) []:=by
 have hlen:=hl.len
 refine aF (ob0:= []) [] Tryz.func114 rfl rfl rfl rfl ?_
 generalize hk:aF3 l=q
 refine cC (aTH l t hl) ?_
 first |refine aC (fun h1=>?_) (fun h1=>?_)|refine⟨fun h1=>?_,fun h1=>?_⟩
 case' refine_2=>
  simp only [aF3,h1,cond_false] at hk
  subst hk
  refine Wk ?_
  try subst hk
  exact Lf
 simp only [aF3,h1,cond_true] at hk
 refine Wk ?_
 refine⟨Nat×Int,fun p=>p.1≤l.length∧p.2+jD mD (l.drop p.1)=q∧0≤p.2∧p.2≤100000*(p.1:Int),fun p=>⟨[(0,⟨[],true,.lst 6 t (aP l)⟩),(2,⟨[],true,.int .i64 0⟩),(3,⟨[],true,.int .i64 p.2⟩),(4,⟨[],true,.int .i64 (p.1:Int)⟩)],[],0⟩,fun p=>l.length-p.1,⟨(0,0),⟨by simp,by simpa using hk,by simp,by simp⟩,?_⟩,fun p hI=>?_⟩
 ·exact Vw []
 obtain⟨i,s⟩:=p
 obtain⟨hI1,hI2,hI3,hI4⟩:=hI
 simp only at hI1 hI2 hI3 hI4
 refine Wk ?_
 rw [aG]
 refine aC (fun h3=>?_) (fun h3=>?_)<;> try simp only [zD,zA,zF,zE,zG] at h3
 ·have h3:i<l.length:=by simp at h3;omega
  have hf:=aS5 hl h3
  have hst:jD mD (l.drop i)=mD l[i]+jD mD (l.drop (i+1)):=by rw [zI h3];rfl
  rw [hst] at hI2
  refine Wk ?_
  first |refine aB (⟨rfl,by omega,by rw [aG];omega⟩) ?_ |refine aH (fun _=>⟨rfl,by omega,by rw [aG];omega⟩) ?_ |refine⟨fun _=>⟨rfl,by omega,by rw [aG];omega⟩,?_⟩
  rw [zC,dZ l i h3]
  generalize l[i]=z at hI2 hf
  refine Wk ?_
  rw [aA]
  unfold mD at hI2 hf
  rw [aO (n:=s+(z.free.length:Int)) (by omega) (by omega),aO (n:=(i:Int)+1) (by omega) (by omega),show((i:Int)+1)=((i+1:Nat):Int) by omega]
  refine⟨(i+1,s+(z.free.length:Int)),⟨by show i+1≤_;omega,by show s+(z.free.length:Int)+jD mD (l.drop (i+1))=q;unfold mD;omega,by show 0≤s+(z.free.length:Int);omega,by show s+(z.free.length:Int)≤100000*((i+1:Nat):Int);omega⟩,?_,by show l.length- (i+1)<l.length-i;omega⟩
  exact Vw []
 have h3:i=l.length:=by simp at h3;omega
 rw [h3,zN,jD,Int.add_zero] at hI2
 subst hI2
 refine Wk ?_
 try subst hk
 exact Lf
def inG(f:Int)(z:Zn):Bool:=bif decide (z.first≤f) then decide (f<iT z) else false
set_option maxRecDepth 20000 in
theorem bGM(z:Zn)(f:Int):aN Tryz.prog 318 [] [.agg z.c,.rp 1 [.int .i64 f] 0] (.bool (inG f z)) []:=by
 refine aF (ob0:= []) [] Tryz.func318 rfl rfl rfl rfl ?_
 refine cC (aNX z) ?_
 try subst hk
 exact Lf
theorem call58:fW Tryz.prog 318:=⟨_,Tryz.func318,rfl,rfl⟩
end Go.Proofs.YtmhapcbjjpadnaaGreat
set_option maxRecDepth 40000
namespace Go.Proofs.YtmhapcbjjpadnaaGreat
open Go Go.Sk Go.RowKit
def rB(u:Bool)(z:Zn):Int:=bif u then 0 else z.min
def lS(u:Bool)(z:Zn):Bool:=decide (rB u z< (z.free.length:Int))
def cX(l:List Zn)(u:Bool):Nat→Option Nat
 |0=>none
 |i+1=>bif lS u (l.getD i fQ) then some i else cX l u i
def aE9(z:Zn):Zn:=⟨z.first,z.size,z.min,z.low,z.high,z.free.drop 1,false⟩
def bX(base l:List Zn)(p:Int)(u:Bool):List Zn×Int×Int:=
 bif !bB l then(base,0,1) else bif decide (p<0)||decide ((l.length:Int)≤p) then(base,0,2) else
 match cX l u (p+1).toNat with
 |some i=>(base.set i (aE9 (l.getD i fQ)),(l.getD i fQ).free.getD 0 0,0)
 |none=>(base,0,3)
theorem tI(l:List Zn)(i:Nat)(h:i<l.length):l.getD i fQ=l[i]:=by simp [List.getD_eq_getElem?_getD,h]
theorem uH(l:List Zn)(i:Nat)(h:i<l.length):(aP (l.map gU)).getD i []=(gU l[i]).c:=by
 rw [dZ _ i (by simpa using h)];simp
theorem drop1(l:List Int):((aE l).take (aE l).length).drop (1:Int).toNat=aE (l.drop 1):=by
 rw [List.take_length,aE,aE,List.map_drop];rfl
set_option maxRecDepth 20000 in
theorem aZ0(l:List Zn)(t:Bool)(p:Int)(u:Bool)(hl:eI l):aN Tryz.prog 109 [] [.lst 6 t (aP l),.int .i64 p,.bool u] (.tup [.lst 6 false (aP (bX (l.map gU) l p u).1),.int .i64 (bX (l.map gU) l p u).2.1,.int .i64 (bX (l.map gU) l p u).2.2]) []:=by
 have hlen:=hl.len
 refine aF (ob0:= []) [] Tryz.func109 rfl rfl rfl rfl ?_
 generalize hk:bX (l.map gU) l p u=q
 refine Wk ?_
 refine .inr ⟨fun _=>⟨[],_,_,_,aZG l t hl,trivial,rfl,rfl,rfl,?_⟩,(by intro h;cases h)⟩
 refine cC (aTG l t hl) ?_
 refine aC (fun h1=>?_) (fun h1=>?_)<;> try simp only [zD,zA,zF,zE,zG] at h1
 ·have h1:(!bB l)=true:=by rw [h1];rfl
  simp only [bX,h1,cond_true] at hk
  subst hk
  refine Wk ?_
  refine⟨[],trivial,rfl,trivial,rfl,?_⟩
  try subst hk
  repeat' (first |exact trivial |rfl |exact .inl rfl |exact .inr rfl |exact id |exact(fun h=>Bool.noConfusion h)|refine And.intro ?_ ?_)
  ·show 0+l.length≤_
   rw [aG];simp
  ·refine cV ?_
   rw [aG];simp
 have h1':bB l=true:=by simpa using h1
 have h1:(!bB l)=false:=by rw [h1'];rfl
 have hg:=oL h1'
 simp only [bX,h1,cond_false] at hk
 refine Wk ?_
 rw [aG]
 refine aC (fun h2=>?_) (fun h2=>?_)<;> try simp only [zD,zA,zF,zE,zG] at h2
 ·simp only [h2,cond_true] at hk
  subst hk
  refine Wk ?_
  refine⟨[],trivial,rfl,trivial,rfl,?_⟩
  try subst hk
  repeat' (first |exact trivial |rfl |exact .inl rfl |exact .inr rfl |exact id |exact(fun h=>Bool.noConfusion h)|refine And.intro ?_ ?_)
  ·show 0+l.length≤_
   rw [aG];simp
  ·refine cV ?_
   rw [aG];simp
 simp only [h2,cond_false] at hk
 simp only [zH,decide_eq_false_iff_not] at h2
 refine Wk ?_
 refine⟨Int,fun i=>(-1≤i∧i<l.length)∧cX l u (i+1).toNat=cX l u (p+1).toNat,fun i=>⟨[(2,⟨[],true,.bool u⟩),(9,⟨[],true,.sl 0 0 l.length⟩),(10,⟨[],true,.int .i64 i⟩)],[(0,.row 6 (aP (l.map gU)))],1⟩,fun i=>(i+1).toNat,⟨p,⟨by omega,rfl⟩,?_⟩,fun i hI=>?_⟩
 ·exact Vq [some _]
 obtain⟨⟨hI1,hI2⟩,hI3⟩:=hI
 refine Wk ?_
 refine aC (fun h3=>?_) (fun h3=>?_)<;> try simp only [zD,zA,zF,zE,zG] at h3
 ·have h3:0≤i:=by simpa using h3
  obtain⟨n,rfl⟩:∃n:Nat,i=n:=⟨i.toNat,by omega⟩
  have hn:n<l.length:=by omega
  refine Wk ?_
  first |refine aB (⟨by omega,by omega⟩) ?_ |refine aH (fun _=>⟨by omega,by omega⟩) ?_ |refine⟨fun _=>⟨by omega,by omega⟩,?_⟩
  refine Wk ?_
  first |refine aB (by rw [aG];simp;omega) ?_ |refine aH (fun _=>by rw [aG];simp;omega) ?_ |refine⟨fun _=>by rw [aG];simp;omega,?_⟩
  refine Wk ?_
  rw [zK,zC,uH l n hn]
  refine Wk ?_
  refine aC (fun hu=>?_) (fun hu=>?_)<;> try simp only [zD,zA,zF,zE,zG] at hu
  ·refine Wk ?_
   first |refine aB (⟨by omega,by omega⟩) ?_ |refine aH (fun _=>⟨by omega,by omega⟩) ?_ |refine⟨fun _=>⟨by omega,by omega⟩,?_⟩
   refine Wk ?_
   first |refine aB (by rw [aG];simp;omega) ?_ |refine aH (fun _=>by rw [aG];simp;omega) ?_ |refine⟨fun _=>by rw [aG];simp;omega,?_⟩
   refine Wk ?_
   rw [zK,zC,uH l n hn]
   refine Wk ?_
   rw [aA]
   refine aC (fun h4=>?_) (fun h4=>?_)<;> try simp only [zD,zA,zF,zE,zG] at h4
   ·have h4:lS u l[n]=true:=by rw [lS,rB,hu];exact h4
    have hpos:0<l[n].free.length:=by
     have :=(hg l[n] (zJ hn)).marks
     simp only [lS,rB,hu,decide_eq_true_eq,cond_true,cond_false] at h4
     omega
    have hst:cX l u (n+1)=some n:=by simp only [cX,tI l n hn,h4,cond_true]
    rw [←hI3,show((n:Int)+1).toNat=n+1 by omega,hst] at hk
    simp only [tI l n hn] at hk
    refine Wk ?_
    first |refine aB (⟨by omega,by omega⟩) ?_ |refine aH (fun _=>⟨by omega,by omega⟩) ?_ |refine⟨fun _=>⟨by omega,by omega⟩,?_⟩
    refine Wk ?_
    first |refine aB (by rw [aG];simp;omega) ?_ |refine aH (fun _=>by rw [aG];simp;omega) ?_ |refine⟨fun _=>by rw [aG];simp;omega,?_⟩
    refine Wk ?_
    rw [zK,zC,uH l n hn]
    refine Wk ?_
    first |refine aB (⟨rfl,by decide,by rw [aA];show(0:Int)< (l[n].free.length:Int);omega⟩) ?_ |refine aH (fun _=>⟨rfl,by decide,by rw [aA];show(0:Int)< (l[n].free.length:Int);omega⟩) ?_ |refine⟨fun _=>⟨rfl,by decide,by rw [aA];show(0:Int)< (l[n].free.length:Int);omega⟩,?_⟩
    rw [show((0:Int)).toNat=0 from rfl,bJ _ 0 (by exact hpos)]
    refine Wk ?_
    first |refine aB (⟨by omega,by omega⟩) ?_ |refine aH (fun _=>⟨by omega,by omega⟩) ?_ |refine⟨fun _=>⟨by omega,by omega⟩,?_⟩
    refine Wk ?_
    first |refine aB (by rw [aG];simp;omega) ?_ |refine aH (fun _=>by rw [aG];simp;omega) ?_ |refine⟨fun _=>by rw [aG];simp;omega,?_⟩
    refine Wk ?_
    rw [zK,zC,uH l n hn]
    refine Wk ?_
    first |refine aB (⟨.inl rfl,by decide,by rw [aA];show(1:Int)≤(l[n].free.length:Int);omega,zL _⟩) ?_ |refine aH (fun _=>⟨.inl rfl,by decide,by rw [aA];show(1:Int)≤(l[n].free.length:Int);omega,zL _⟩) ?_ |refine⟨fun _=>⟨.inl rfl,by decide,by rw [aA];show(1:Int)≤(l[n].free.length:Int);omega,zL _⟩,?_⟩
    rw [zC,drop1]
    refine Wk ?_
    first |refine aB (⟨by omega,by omega⟩) ?_ |refine aH (fun _=>⟨by omega,by omega⟩) ?_ |refine⟨fun _=>⟨by omega,by omega⟩,?_⟩
    refine Wk ?_
    first |refine aB (by rw [aG];simp;omega) ?_ |refine⟨by rw [aG];simp;omega,?_⟩
    refine Wk ?_
    subst hk
    refine⟨[],trivial,rfl,trivial,rfl,?_⟩
    try subst hk
    repeat' (first |exact trivial |rfl |exact .inl rfl |exact .inr rfl |exact id |exact(fun h=>Bool.noConfusion h)|refine And.intro ?_ ?_)
    ·show 0+l.length≤_
     rw [zP,aG];simp
    ·rw [zK,zC]
     refine(congrArg (fun r=>List.take l.length (List.drop 0 r)) (aC9 (l.map gU) n (by simp;omega) (l[n].free.drop 1) false)).trans ?_
     refine(cV (by rw [aG];simp)).trans ?_
     simp only [zR]
     rfl
    ·exact eY _ 0 hpos
   have h4:lS u l[n]=false:=by rw [lS,rB,hu];exact h4
   have hst:cX l u (n+1)=cX l u n:=by simp only [cX,tI l n hn,h4,cond_false]
   refine Wk ?_
   rw [aO (n:=(n:Int)-1) (by omega) (by omega)]
   refine⟨(n:Int)-1,⟨by omega,by rw [show((n:Int)-1+1).toNat=n by omega,←hst,←hI3,show((n:Int)+1).toNat=n+1 by omega]⟩,?_,by show((n:Int)-1+1).toNat< ((n:Int)+1).toNat;omega⟩
   exact Vw [some 0]
  refine Wk ?_
  first |refine aB (⟨by omega,by omega⟩) ?_ |refine aH (fun _=>⟨by omega,by omega⟩) ?_ |refine⟨fun _=>⟨by omega,by omega⟩,?_⟩
  refine Wk ?_
  first |refine aB (by rw [aG];simp;omega) ?_ |refine aH (fun _=>by rw [aG];simp;omega) ?_ |refine⟨fun _=>by rw [aG];simp;omega,?_⟩
  refine Wk ?_
  rw [zK,zC,uH l n hn]
  refine Wk ?_
  rw [aA]
  refine aC (fun h4=>?_) (fun h4=>?_)<;> try simp only [zD,zA,zF,zE,zG] at h4
  ·have h4:lS u l[n]=true:=by rw [lS,rB,hu];exact h4
   have hpos:0<l[n].free.length:=by
    have :=(hg l[n] (zJ hn)).marks
    simp only [lS,rB,hu,decide_eq_true_eq,cond_true,cond_false] at h4
    omega
   have hst:cX l u (n+1)=some n:=by simp only [cX,tI l n hn,h4,cond_true]
   rw [←hI3,show((n:Int)+1).toNat=n+1 by omega,hst] at hk
   simp only [tI l n hn] at hk
   refine Wk ?_
   first |refine aB (⟨by omega,by omega⟩) ?_ |refine aH (fun _=>⟨by omega,by omega⟩) ?_ |refine⟨fun _=>⟨by omega,by omega⟩,?_⟩
   refine Wk ?_
   first |refine aB (by rw [aG];simp;omega) ?_ |refine aH (fun _=>by rw [aG];simp;omega) ?_ |refine⟨fun _=>by rw [aG];simp;omega,?_⟩
   refine Wk ?_
   rw [zK,zC,uH l n hn]
   refine Wk ?_
   first |refine aB (⟨rfl,by decide,by rw [aA];show(0:Int)< (l[n].free.length:Int);omega⟩) ?_ |refine aH (fun _=>⟨rfl,by decide,by rw [aA];show(0:Int)< (l[n].free.length:Int);omega⟩) ?_ |refine⟨fun _=>⟨rfl,by decide,by rw [aA];show(0:Int)< (l[n].free.length:Int);omega⟩,?_⟩
   rw [show((0:Int)).toNat=0 from rfl,bJ _ 0 (by exact hpos)]
   refine Wk ?_
   first |refine aB (⟨by omega,by omega⟩) ?_ |refine aH (fun _=>⟨by omega,by omega⟩) ?_ |refine⟨fun _=>⟨by omega,by omega⟩,?_⟩
   refine Wk ?_
   first |refine aB (by rw [aG];simp;omega) ?_ |refine aH (fun _=>by rw [aG];simp;omega) ?_ |refine⟨fun _=>by rw [aG];simp;omega,?_⟩
   refine Wk ?_
   rw [zK,zC,uH l n hn]
   refine Wk ?_
   first |refine aB (⟨.inl rfl,by decide,by rw [aA];show(1:Int)≤(l[n].free.length:Int);omega,zL _⟩) ?_ |refine aH (fun _=>⟨.inl rfl,by decide,by rw [aA];show(1:Int)≤(l[n].free.length:Int);omega,zL _⟩) ?_ |refine⟨fun _=>⟨.inl rfl,by decide,by rw [aA];show(1:Int)≤(l[n].free.length:Int);omega,zL _⟩,?_⟩
   rw [zC,drop1]
   refine Wk ?_
   first |refine aB (⟨by omega,by omega⟩) ?_ |refine aH (fun _=>⟨by omega,by omega⟩) ?_ |refine⟨fun _=>⟨by omega,by omega⟩,?_⟩
   refine Wk ?_
   first |refine aB (by rw [aG];simp;omega) ?_ |refine⟨by rw [aG];simp;omega,?_⟩
   refine Wk ?_
   subst hk
   refine⟨[],trivial,rfl,trivial,rfl,?_⟩
   try subst hk
   repeat' (first |exact trivial |rfl |exact .inl rfl |exact .inr rfl |exact id |exact(fun h=>Bool.noConfusion h)|refine And.intro ?_ ?_)
   ·show 0+l.length≤_
    rw [zP,aG];simp
   ·rw [zK,zC]
    refine(congrArg (fun r=>List.take l.length (List.drop 0 r)) (aC9 (l.map gU) n (by simp;omega) (l[n].free.drop 1) false)).trans ?_
    refine(cV (by rw [aG];simp)).trans ?_
    simp only [zR]
    rfl
   ·exact eY _ 0 hpos
  have h4:lS u l[n]=false:=by rw [lS,rB,hu];exact h4
  have hst:cX l u (n+1)=cX l u n:=by simp only [cX,tI l n hn,h4,cond_false]
  refine Wk ?_
  rw [aO (n:=(n:Int)-1) (by omega) (by omega)]
  refine⟨(n:Int)-1,⟨by omega,by rw [show((n:Int)-1+1).toNat=n by omega,←hst,←hI3,show((n:Int)+1).toNat=n+1 by omega]⟩,?_,by show((n:Int)-1+1).toNat< ((n:Int)+1).toNat;omega⟩
  exact Vw [some 0]
 have h3:i= -1:=by simp at h3;omega
 subst h3
 rw [←hI3] at hk
 have hk:(l.map gU,(0:Int),(3:Int))=q:=hk
 subst hk
 refine Wk ?_
 refine⟨[],trivial,rfl,trivial,rfl,?_⟩
 try subst hk
 repeat' (first |exact trivial |rfl |exact .inl rfl |exact .inr rfl |exact id |exact(fun h=>Bool.noConfusion h)|refine And.intro ?_ ?_)
 ·show 0+l.length≤_
  rw [aG];simp
 ·refine cV ?_
  rw [aG];simp
theorem aZH(l:List Zn)(t:Bool)(i:Nat)(z:Zn)(hi:i<l.length)(hl:l.length≤100000):aN Tryz.prog 213 [] [.lst 6 t (aP l),.int .i64 i,.agg z.c] (.lst 6 false (aP (l.set i z))) []:=by
 refine aF (ob0:= []) [] Tryz.func213 rfl rfl rfl rfl ?_
 generalize hk:l.set i z=q
 refine Wk ?_
 rw [aG]
 first |refine bA (by omega) (by omega) ?_ |refine aB ⟨by omega,by omega⟩ ?_ |refine⟨by omega,by omega,?_⟩
 refine Wk ?_
 first |refine aB (⟨by omega,by omega⟩) ?_ |refine aH (fun _=>⟨by omega,by omega⟩) ?_ |refine⟨fun _=>⟨by omega,by omega⟩,?_⟩
 refine Wk ?_
 first |refine aB (by rw [aG];omega) ?_ |refine⟨by rw [aG];omega,?_⟩
 refine Wk ?_
 subst hk
 refine⟨[],trivial,rfl,trivial,rfl,?_⟩
 try subst hk
 repeat' (first |exact trivial |rfl |exact .inl rfl |exact .inr rfl |exact id |exact(fun h=>Bool.noConfusion h)|refine And.intro ?_ ?_)
 ·show 0+l.length≤_
  rw [zP,aG];omega
 ·rw [zK,zC]
  refine(cV (by rw [zP,aG])).trans ?_
  rw [aP,aP,List.map_set]
  rfl
end Go.Proofs.YtmhapcbjjpadnaaGreat
set_option maxRecDepth 40000
namespace Go.Proofs.YtmhapcbjjpadnaaGreat
open Go Go.Sk Go.RowKit
theorem aJA {z:Zn} (g:aI6 z)(u:Bool):(decide (z.min< (z.free.length:Int))||(u&&decide (0< (z.free.length:Int))))=lS u z:=by
 have :=g.marks
 cases u with
 |false=>exact Bool.or_false _
 |true=>
  show(decide (z.min< (z.free.length:Int))||(true&&decide (0< (z.free.length:Int))))=decide ((0:Int)< (z.free.length:Int))
  rw [Bool.eq_iff_iff]
  simp only [zM,zQ,decide_eq_true_eq]
  omega
theorem aSC {z:Zn} (g:aI6 z) {u:Bool} (h:lS u z=true):0<z.free.length:=by
 have :=g.marks
 cases u with
 |false=>
  have :z.min< (z.free.length:Int):=of_decide_eq_true h
  omega
 |true=>
  have :(0:Int)< (z.free.length:Int):=of_decide_eq_true h
  omega
set_option maxRecDepth 20000 in
theorem bEU(l:List Zn)(t:Bool)(p:Int)(u:Bool)(hl:eI l):aN Tryz.prog 110 [] [.lst 6 t (aP l),.int .i64 p,.bool u] (.tup [.lst 6 false (aP (bX l l p u).1),.int .i64 (bX l l p u).2.1,.int .i64 (bX l l p u).2.2]) []:=by
 have hlen:=hl.len
 refine aF (ob0:= []) [.r 57] Tryz.func110 rfl rfl rfl rfl ?_
 generalize hk:bX l l p u=q
 refine cC (aTH l t hl) ?_
 refine aC (fun h1=>?_) (fun h1=>?_)<;> try simp only [zD,zA,zF,zE,zG] at h1
 ·have h1:(!bB l)=true:=by rw [h1];rfl
  simp only [bX,h1,cond_true] at hk
  subst hk
  refine Wk ?_
  try subst hk
  exact Lf
 have h1':bB l=true:=by simpa using h1
 have h1:(!bB l)=false:=by rw [h1'];rfl
 have hg:=oL h1'
 simp only [bX,h1,cond_false] at hk
 refine Wk ?_
 rw [aG]
 refine aC (fun h2=>?_) (fun h2=>?_)<;> try simp only [zD,zA,zF,zE,zG] at h2
 ·simp only [h2,cond_true] at hk
  subst hk
  refine Wk ?_
  try subst hk
  exact Lf
 simp only [h2,cond_false] at hk
 simp only [zH,decide_eq_false_iff_not] at h2
 refine Wk ?_
 refine⟨Int,fun i=>(-1≤i∧i<l.length)∧cX l u (i+1).toNat=cX l u (p+1).toNat,fun i=>⟨[(0,⟨[],true,.lst 6 t (aP l)⟩),(2,⟨[],true,.bool u⟩),(9,⟨[],true,.int .i64 i⟩)],[],0⟩,fun i=>(i+1).toNat,⟨p,⟨by omega,rfl⟩,?_⟩,fun i hI=>?_⟩
 ·exact Vw []
 obtain⟨⟨hI1,hI2⟩,hI3⟩:=hI
 refine Wk ?_
 refine aC (fun h3=>?_) (fun h3=>?_)<;> try simp only [zD,zA,zF,zE,zG] at h3
 ·have h3:0≤i:=by simpa using h3
  obtain⟨n,rfl⟩:∃n:Nat,i=n:=⟨i.toNat,by omega⟩
  have hn:n<l.length:=by omega
  have hgn:=hg l[n] (zJ hn)
  have hfn:=hl.free l[n] (zJ hn)
  refine Wk ?_
  first |refine aB (⟨rfl,by omega,by rw [aG];omega⟩) ?_ |refine aH (fun _=>⟨rfl,by omega,by rw [aG];omega⟩) ?_ |refine⟨fun _=>⟨rfl,by omega,by rw [aG];omega⟩,?_⟩
  rw [zC,dZ l n hn]
  obtain⟨z,hz⟩:∃z,l[n]=z:=⟨_,rfl⟩
  rw [hz] at hgn hfn⊢
  have hm:=hgn.marks
  refine Wk ?_
  rw [aA]
  refine Wk ?_
  refine aC (fun h4=>?_) (fun h4=>?_)<;> try simp only [zD,zA,zF,zE,zG] at h4
  ·rw [aJA hgn u] at h4
   have hpos:0<z.free.length:=aSC hgn h4
   have hst:cX l u (n+1)=some n:=by simp only [cX,tI l n hn,hz,h4,cond_true]
   rw [←hI3,show((n:Int)+1).toNat=n+1 by omega,hst] at hk
   simp only [tI l n hn,hz] at hk
   refine Wk ?_
   first |refine aB (⟨rfl,by decide,by rw [aA];omega⟩) ?_ |refine aH (fun _=>⟨rfl,by decide,by rw [aA];omega⟩) ?_ |refine⟨fun _=>⟨rfl,by decide,by rw [aA];omega⟩,?_⟩
   rw [show((0:Int)).toNat=0 from rfl,bJ _ 0 hpos]
   refine Wk ?_
   refine⟨Unit,fun _=>True,fun _=>⟨[(0,⟨[],true,.lst 6 t (aP l)⟩),(9,⟨[],true,.int .i64 (n:Int)⟩),(10,⟨[],true,.ptr 0 0 0⟩),(11,⟨[],true,.int .i64 z.free[0]⟩)],[(0,.box (aE9 z).c)],1⟩,?_,fun _ _=>?_⟩
   ·refine Wk ?_
    first |refine aB (⟨.inl rfl,by decide,by rw [aA];omega,zL _⟩) ?_ |refine aH (fun _=>⟨.inl rfl,by decide,by rw [aA];omega,zL _⟩) ?_ |refine⟨fun _=>⟨.inl rfl,by decide,by rw [aA];omega,zL _⟩,?_⟩
    rw [zC,drop1]
    refine Wk ?_
    rw [aA]
    have hdl:(z.free.drop 1).length≤100000:=by simp;omega
    first |refine bA (by omega) (by omega) ?_ |refine aB ⟨by omega,by omega⟩ ?_ |refine⟨by omega,by omega,?_⟩
    refine Wk ?_
    refine⟨(),trivial,?_⟩
    refine bT [some 0] rfl rfl ?_ rfl ?_ rfl ?_
    repeat' (first |exact trivial |rfl |exact .inl rfl |exact .inr rfl |exact id |exact(fun h=>Bool.noConfusion h)|refine And.intro ?_ ?_)
    ·show 0+(z.free.drop 1).length≤(aE (z.free.drop 1)).length
     rw [aA];omega
    ·exact cV (aA _)
   ·refine cC (aZH l t n (aE9 z) hn hlen) ?_
    subst hk
    refine⟨[],trivial,rfl,trivial,rfl,?_⟩
    try subst hk
    repeat' (first |exact trivial |rfl |exact .inl rfl |exact .inr rfl |exact id |exact(fun h=>Bool.noConfusion h)|refine And.intro ?_ ?_)
    exact eY _ 0 hpos
  rw [aJA hgn u] at h4
  have hst:cX l u (n+1)=cX l u n:=by simp only [cX,tI l n hn,hz,h4,cond_false]
  refine Wk ?_
  rw [aO (n:=(n:Int)-1) (by omega) (by omega)]
  refine⟨(n:Int)-1,⟨by omega,by rw [show((n:Int)-1+1).toNat=n by omega,←hst,←hI3,show((n:Int)+1).toNat=n+1 by omega]⟩,?_,by show((n:Int)-1+1).toNat< ((n:Int)+1).toNat;omega⟩
  exact Vw []
 have h3:i= -1:=by simp at h3;omega
 subst h3
 rw [←hI3] at hk
 have hk:(l,(0:Int),(3:Int))=q:=hk
 subst hk
 refine Wk ?_
 try subst hk
 exact Lf
end Go.Proofs.YtmhapcbjjpadnaaGreat
set_option maxRecDepth 40000
namespace Go.Proofs.YtmhapcbjjpadnaaGreat
open Go Go.Sk Go.RowKit
def aD2(x y:Zn):Bool:=((((x.first != y.first||x.size != y.size)||x.min != y.min)||x.low != y.low)||x.high != y.high)||((x.free.length:Int) != (y.free.length:Int))
def eqZ(x y:Zn):Bool:= !aD2 x y&&decide (x.free=y.free)
def mK:List Zn→List Zn→Bool
 | [],[]=>true
 |x::a,y::b=>eqZ x y&&mK a b
 |_,_=>false
theorem aFX:∀(a b:List Zn),a.length≠b.length→mK a b=false
 | [],[],h=>absurd rfl h
 | [],_::_,_=>rfl
 |_::_,[],_=>rfl
 |x::a,y::b,h=>by
  simp only [mK,aFX a b (by simpa using h),Bool.and_false]
theorem aWE(x y:Zn):eqZ x y=true↔x.first=y.first∧x.size=y.size∧x.min=y.min∧x.low=y.low∧x.high=y.high∧x.free=y.free:=by
 simp only [eqZ,aD2,zO,zF,zH,bne_eq_false_iff_eq,decide_eq_true_eq]
 constructor
 ·rintro ⟨⟨⟨⟨⟨⟨h1,h2⟩,h3⟩,h4⟩,h5⟩,-⟩,h6⟩;exact⟨h1,h2,h3,h4,h5,h6⟩
 ·rintro ⟨h1,h2,h3,h4,h5,h6⟩;exact⟨⟨⟨⟨⟨⟨h1,h2⟩,h3⟩,h4⟩,h5⟩,by rw [h6]⟩,h6⟩
theorem aFW:∀(a b:List Zn),mK a b=true↔a.length=b.length∧∀i (h:i<a.length) (h':i<b.length),eqZ a[i] b[i]=true
 | [],[]=>by simp [mK]
 | [],_::_=>by simp [mK]
 |_::_,[]=>by simp [mK]
 |x::a,y::b=>by
  simp only [mK,zO,aFW a b,List.length_cons]
  constructor
  ·rintro ⟨h1,h2,h3⟩
   refine⟨by omega,fun i h h'=>?_⟩
   cases i with
   |zero=>exact h1
   |succ i=>exact h3 i (by omega) (by omega)
  ·rintro ⟨h1,h2⟩
   exact⟨h2 0 (by omega) (by omega),by omega,fun i h h'=>h2 (i+1) (by omega) (by omega)⟩
set_option maxRecDepth 20000 in
set_option maxHeartbeats 1000000 in
theorem bJS(a b:List Zn)(ta tb:Bool)(ha:eI a)(hb:eI b):aN Tryz.prog 89 [] [.lst 6 ta (aP a),.lst 6 tb (aP b)] (.bool (mK a b)) []:=by
 have hla:=ha.len
 have hlb:=hb.len
 refine aF (ob0:= []) [] Tryz.func89 rfl rfl rfl rfl ?_
 generalize hk:mK a b=q
 refine Wk ?_
 rw [aG,aG]
 refine aC (fun h1=>?_) (fun h1=>?_)<;> try simp only [zD,zA,zF,zE,zG] at h1
 ·have h1:a.length≠b.length:=by simp at h1;omega
  rw [aFX a b h1] at hk
  subst hk
  refine Wk ?_
  try subst hk
  exact Lf
 have h1:a.length=b.length:=by simp at h1;omega
 refine Wk ?_
 refine⟨Nat,fun i=>i≤a.length∧mK (a.drop i) (b.drop i)=q,fun i=>⟨[(0,⟨[],true,.lst 6 ta (aP a)⟩),(1,⟨[],true,.lst 6 tb (aP b)⟩),(4,⟨[],true,.bool false⟩),(5,⟨[],true,.int .i64 (i:Int)⟩)],[],0⟩,fun i=>a.length-i,⟨0,⟨by omega,hk⟩,?_⟩,fun i hI=>?_⟩
 ·exact Vw []
 obtain⟨hI1,hI2⟩:=hI
 refine Wk ?_
 rw [aG]
 refine aC (fun h2=>?_) (fun h2=>?_)<;> try simp only [zD,zA,zF,zE,zG] at h2
 ·have h2:i<a.length:=by simp at h2;omega
  have h2b:i<b.length:=by omega
  rw [zI h2,zI h2b,mK] at hI2
  have hfa:=ha.free a[i] (zJ h2)
  have hfb:=hb.free b[i] (zJ h2b)
  refine Wk ?_
  first |refine aB (⟨rfl,by omega,by rw [aG];omega⟩) ?_ |refine aH (fun _=>⟨rfl,by omega,by rw [aG];omega⟩) ?_ |refine⟨fun _=>⟨rfl,by omega,by rw [aG];omega⟩,?_⟩
  rw [zC,dZ a i h2]
  refine Wk ?_
  first |refine aB (⟨rfl,by omega,by rw [aG];omega⟩) ?_ |refine aH (fun _=>⟨rfl,by omega,by rw [aG];omega⟩) ?_ |refine⟨fun _=>⟨rfl,by omega,by rw [aG];omega⟩,?_⟩
  rw [zC,dZ b i h2b]
  generalize a[i]=x at hI2 hfa
  generalize b[i]=y at hI2 hfb
  refine Wk ?_
  rw [aA,aA]
  refine Wk ?_
  refine aC (fun h3=>?_) (fun h3=>?_)<;> try simp only [zD,zA,zF,zE,zG] at h3
  ·have h3:aD2 x y=true:=h3
   rw [eqZ,h3] at hI2
   have hI2:false=q:=hI2
   subst hI2
   refine Wk ?_
   try subst hk
   exact Lf
  have h3:aD2 x y=false:=h3
  rw [eqZ,h3,Bool.not_false,zM] at hI2
  have hlen:x.free.length=y.free.length:=by
   simp only [aD2,zH,bne_eq_false_iff_eq] at h3;omega
  refine Wk ?_
  refine⟨Nat,fun k=>k≤x.free.length∧∀j (hj:j<k) (h:j<x.free.length) (h':j<y.free.length),x.free[j]=y.free[j],fun k=>⟨[(0,⟨[],true,.lst 6 ta (aP a)⟩),(1,⟨[],true,.lst 6 tb (aP b)⟩),(4,⟨[],true,.bool false⟩),(5,⟨[],true,.int .i64 (i:Int)⟩),(6,⟨[],true,.ptr 0 0 0⟩),(7,⟨[],true,.ptr 1 0 0⟩),(8,⟨[],true,.int .i64 (k:Int)⟩)],[(0,.box x.c),(1,.box y.c)],2⟩,fun k=>x.free.length-k,⟨0,⟨by omega,fun j hj=>by omega⟩,?_⟩,fun k hJ=>?_⟩
  ·exact Vq [some _,some _]
  obtain⟨hJ1,hJ2⟩:=hJ
  refine Wk ?_
  rw [aA]
  refine aC (fun h4=>?_) (fun h4=>?_)<;> try simp only [zD,zA,zF,zE,zG] at h4
  ·have h4:k<x.free.length:=by simp at h4;omega
   refine Wk ?_
   first |refine aB (⟨rfl,by omega,by rw [aA];omega⟩) ?_ |refine aH (fun _=>⟨rfl,by omega,by rw [aA];omega⟩) ?_ |refine⟨fun _=>⟨rfl,by omega,by rw [aA];omega⟩,?_⟩
   rw [zC,bJ x.free k h4]
   refine Wk ?_
   first |refine aB (⟨rfl,by omega,by rw [aA];omega⟩) ?_ |refine aH (fun _=>⟨rfl,by omega,by rw [aA];omega⟩) ?_ |refine⟨fun _=>⟨rfl,by omega,by rw [aA];omega⟩,?_⟩
   rw [zC,bJ y.free k (by omega)]
   refine Wk ?_
   refine aC (fun h5=>?_) (fun h5=>?_)<;> try simp only [zD,zA,zF,zE,zG] at h5
   ·have h5:x.free[k]≠y.free[k]'(by omega):=by simpa using h5
    have hne:x.free≠y.free:=fun e=>h5 (by simp [e])
    rw [decide_eq_false hne,Bool.false_and] at hI2
    subst hI2
    refine Wk ?_
    try subst hk
    exact Lf
   have h5:x.free[k]=y.free[k]'(by omega):=by simpa using h5
   refine Wk ?_
   rw [aO (n:=(k:Int)+1) (by omega) (by omega),show((k:Int)+1)=((k+1:Nat):Int) by omega]
   refine⟨k+1,⟨by omega,fun j hj h h'=>?_⟩,?_,by show x.free.length- (k+1)<x.free.length-k;omega⟩
   ·by_cases e:j=k
    ·subst e;exact h5
    ·exact hJ2 j (by omega) h h'
   exact Vw [some 0,some 1]
  have h4:k=x.free.length:=by simp at h4;omega
  have he:x.free=y.free:=List.ext_getElem hlen fun j h h'=>hJ2 j (by omega) h h'
  rw [decide_eq_true he,zM] at hI2
  refine Wk ?_
  rw [aO (n:=(i:Int)+1) (by omega) (by omega),show((i:Int)+1)=((i+1:Nat):Int) by omega]
  refine⟨i+1,⟨by omega,hI2⟩,?_,by show a.length- (i+1)<a.length-i;omega⟩
  exact Vw []
 have h2:i=a.length:=by simp at h2;omega
 rw [h2,zN,h1,zN,mK] at hI2
 subst hI2
 refine Wk ?_
 try subst hk
 exact Lf
end Go.Proofs.YtmhapcbjjpadnaaGreat
