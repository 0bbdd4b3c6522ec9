/- Caches. -/
import Derived.Test.YtmhapcbjjpadnaaGreatG1m
set_option linter.unusedSimpArgs false
set_option linter.unusedVariables false
open Bool renaming cond_false_right→zC,cond_true_left→zD,not_eq_false'→zE,not_eq_true'→zF,not_not→zH,or_eq_false_iff→zJ,and_eq_true→zM
open Int renaming toNat_natCast→zA,le_refl→zK
open List renaming getElem_mem→zI,drop_eq_getElem_cons→zL,getElem_map→zN
open Nat renaming zero_add→zG
set_option linter.constructorNameAsVariable false
set_option maxRecDepth 40000
namespace Go.Proofs.YtmhapcbjjpadnaaGreat
open Go Go.Sk Go.RowKit
def aC8:Int→List Zn→Bool
 |_,[]=>true
 |f,z::r=>lF z f&&aC8 (sV z) r
def bH(l:List Zn):Bool:=aC8 1 l&&decide (0< (l.length:Int))
structure kG(l:List Zn):Prop where
 len:l.length≤100000
 free:∀z∈l,z.free.length≤100000
theorem kG.at {l:List Zn} (h:kG l) {i:Nat} (hi:i<l.length):(l[i].free.length:Int)<2^62:=by
 have :=h.free _ (zI hi);omega
set_option maxRecDepth 20000 in
theorem aTF(l:List Zn)(t:Bool)(hl:kG l):aQ Tryz.prog 211 [] [.lst 6 t (aW l)] (.bool (bH l)) []:=by
 have hlen:=hl.len
 refine aF (ob0:= []) [] Tryz.func211 rfl rfl rfl rfl ?_
 generalize hk:bH l=q
 refine Wk ?_
 rw [aG]
 refine⟨Nat×Int,fun p=>p.1≤l.length∧aC8 1 l=aC8 p.2 (l.drop p.1),fun p=>⟨[(0,⟨[],true,.lst 6 t (aW l)⟩),(2,⟨[],true,.bool false⟩),(3,⟨[],true,.int .i64 p.2⟩),(6,⟨[],true,.lst 6 t (aW l)⟩),(7,⟨[],true,.int .i64 (l.length:Int)⟩),(8,⟨[],true,.int .i64 (p.1:Int)⟩)],[],0⟩,fun p=>l.length-p.1,⟨(0,1),⟨by simp,rfl⟩,?_⟩,fun p hI=>?_⟩
 ·exact Vw []
 obtain⟨i,f⟩:=p
 obtain⟨hI1,hI2⟩:=hI
 simp only at hI1 hI2
 refine Wk ?_
 refine aI (fun h3=>?_) (fun h3=>?_)<;> try simp only [zD,zC,zF,zE,zH] at h3
 ·have h3:i<l.length:=by simp at h3;omega
  rw [zL h3,aC8] at hI2
  have hf:=hl.at h3
  refine Wk ?_
  first |refine aE (⟨rfl,by omega,by rw [aG];omega⟩) ?_ |refine aM (fun _=>⟨rfl,by omega,by rw [aG];omega⟩) ?_ |refine⟨fun _=>⟨rfl,by omega,by rw [aG];omega⟩,?_⟩
  rw [zA,iG l i h3]
  generalize l[i]=z at hI2 hf
  refine dF (bFT z f hf) ?_
  refine aI (fun h4=>?_) (fun h4=>?_)<;> try simp only [zD,zC,zF,zE,zH] at h4
  ·have h4:lF z f=false:=by simpa using h4
   rw [bH,hI2,h4] at hk
   have hk:q=false:=by rw [←hk];rfl
   subst hk
   refine Wk ?_
   try subst hk
   exact Lf
  have h4:lF z f=true:=by simpa using h4
  rw [h4,Bool.true_and] at hI2
  refine dF (aNU z) ?_
  rw [aY (n:=(i:Int)+1) (by omega) (by omega),show((i:Int)+1)=((i+1:Nat):Int) by omega]
  refine⟨(i+1,sV z),⟨by show i+1≤_;omega,hI2⟩,?_,by show l.length- (i+1)<l.length-i;omega⟩
  exact Vw []
 have h3:i=l.length:=by simp at h3;omega
 rw [h3,List.drop_length,aC8] at hI2
 rw [bH,hI2,Bool.true_and] at hk
 refine Wk ?_
 rw [aG]
 subst hk
 refine Wk ?_
 try subst hk
 exact Lf
end Go.Proofs.YtmhapcbjjpadnaaGreat
set_option maxRecDepth 40000
namespace Go.Proofs.YtmhapcbjjpadnaaGreat
open Go Go.Sk Go.RowKit
def fH(z:Zn):Zn:=⟨z.first,z.size,z.min,z.low,z.high,z.free,true⟩
def iO(l:List Zn)(i:Nat):List Zn:=(l.take i).map fH++l.drop i
theorem oK(l:List Zn)(i:Nat):(iO l i).length=l.length:=by simp [iO];omega
theorem aKS(l:List Zn)(i:Nat)(h:i<l.length):(iO l i)[i]'(by rw [oK];exact h)=l[i]:=by
 have hl:((l.take i).map fH).length=i:=by simp;omega
 simp only [iO]
 rw [List.getElem_append_right (by omega)]
 simp only [hl,Nat.sub_self,List.getElem_drop,Nat.add_zero]
theorem aKT(l:List Zn)(i:Nat)(h:i<l.length):(iO l i).set i (fH l[i])=iO l (i+1):=by
 have hl:((l.take i).map fH).length=i:=by simp;omega
 simp only [iO]
 rw [List.set_append_right _ _ (by omega),hl,Nat.sub_self,zL h,List.set_cons_zero,List.take_succ_eq_append_getElem h,List.map_append,List.append_assoc]
 rfl
theorem aKR(l:List Zn):iO l l.length=l.map fH:=by simp [iO]
theorem aHU(l:List Zn):iO l 0=l:=by simp [iO]
theorem aBS(L:List Zn)(i:Nat)(h:i<L.length)(f:List Int)(e:Bool):
 (aW L).set i (aR 6 ((aW L).getD i []) 5 [.lst 1 e (aJ f)])=aW (L.set i ⟨(L[i]'h).first,(L[i]'h).size,(L[i]'h).min,(L[i]'h).low,(L[i]'h).high,f,e⟩):=by
 rw [iG L i h,aW,aW,List.map_set]
 rfl
theorem aWA {rows:List (List V)} {n:Nat} {z:List V} (h:rows.length=n):(List.replicate n z).take 0++rows.take (min rows.length n)++(List.replicate n z).drop (0+min rows.length n)=rows:=by
 subst h
 simp
set_option maxRecDepth 20000 in
theorem aZW(l:List Zn)(t:Bool)(hl:kG l):aQ Tryz.prog 210 [] [.lst 6 t (aW l)] (.sl 0 0 l.length) [.row 6 (aW (l.map fH))]:=by
 have hlen:=hl.len
 refine aF (ob0:= []) [.r 26] Tryz.func210 rfl rfl rfl rfl ?_
 refine Wk ?_
 refine .inr ⟨fun _=>⟨[],_,_,_,aTC (aW l) t (by rw [aG];omega),trivial,rfl,rfl,rfl,?_⟩,(by intro h;cases h)⟩
 rw [aG]
 refine Wk ?_
 refine⟨Nat,fun i=>i≤l.length,fun i=>⟨[(0,⟨[],true,.lst 6 t (aW l)⟩),(3,⟨[],true,.sl 0 0 l.length⟩),(9,⟨[],true,.int .i64 (l.length:Int)⟩),(10,⟨[],true,.int .i64 (i:Int)⟩)],[(0,.row 6 (aW (iO l i)))],1⟩,fun i=>l.length-i,⟨0,by omega,?_⟩,fun i hI=>?_⟩
 ·exact Vw [some 0]
  try rw [aHU]
 have hI:i≤l.length:=hI
 refine Wk ?_
 refine aI (fun h3=>?_) (fun h3=>?_)<;> try simp only [zD,zC,zF,zE,zH] at h3
 ·have h3:i<l.length:=by simp at h3;omega
  have hf:=hl.free _ (zI h3)
  refine Wk ?_
  first |refine aE (⟨rfl,by omega,by rw [aG];omega⟩) ?_ |refine aM (fun _=>⟨rfl,by omega,by rw [aG];omega⟩) ?_ |refine⟨fun _=>⟨rfl,by omega,by rw [aG];omega⟩,?_⟩
  rw [zA,iG l i h3]
  generalize hz:l[i]=z at hf
  refine Wk ?_
  rw [aB]
  refine Wk ?_
  first |refine aFH (by omega) (by omega) (by omega) (by omega) ?_ |refine aE ⟨by omega,by omega,by omega,by omega⟩ ?_ |refine⟨by omega,by omega,by omega,by omega,?_⟩
  rw [zA]
  refine Wk ?_
  refine⟨Unit,fun _=>True,fun _=>⟨[(0,⟨[],true,.lst 6 t (aW l)⟩),(3,⟨[],true,.sl 0 0 l.length⟩),(4,⟨[],true,.int .i64 (i:Int)⟩),(5,⟨[],true,.lst 1 true (aJ z.free)⟩),(9,⟨[],true,.int .i64 (l.length:Int)⟩),(10,⟨[],true,.int .i64 (i:Int)⟩)],[(0,.row 6 (aW (iO l i)))],1⟩,?_,fun _ _=>?_⟩
  ·refine Wk ?_
   first |refine aE (⟨rfl,by omega,by rw [aG];omega⟩) ?_ |refine aM (fun _=>⟨rfl,by omega,by rw [aG];omega⟩) ?_ |refine⟨fun _=>⟨rfl,by omega,by rw [aG];omega⟩,?_⟩
   rw [zA,iG l i h3,hz]
   refine Wk ?_
   first |refine aE (by simp) ?_ |refine⟨by simp,?_⟩
   rw [aWA (aB _)]
   refine Wk ?_
   refine⟨(),trivial,?_⟩
   refine cO [some 0] rfl rfl ?_ rfl ?_ rfl ?_
   repeat' (first |exact trivial |rfl |exact .inl rfl |exact .inr rfl |exact id |exact(fun h=>Bool.noConfusion h)|refine And.intro ?_ ?_)
   ·exact fun _=>rfl
   ·show 0+z.free.length≤(aJ z.free).length
    rw [aB];omega
   ·exact eF (aB _)
  ·refine Wk ?_
   first |refine aE (⟨by omega,by omega⟩) ?_ |refine aM (fun _=>⟨by omega,by omega⟩) ?_ |refine⟨fun _=>⟨by omega,by omega⟩,?_⟩
   refine Wk ?_
   first |refine aE (by rw [aG,oK];omega) ?_ |refine⟨by rw [aG,oK];omega,?_⟩
   refine Wk ?_
   rw [zA,zG,aY (n:=(i:Int)+1) (by omega) (by omega),show((i:Int)+1)=((i+1:Nat):Int) by omega]
   refine⟨i+1,by show i+1≤_;omega,?_,by show l.length- (i+1)<l.length-i;omega⟩
   refine cO [some 0] rfl rfl ?_ rfl ?_ rfl ?_
   repeat' (first |exact trivial |rfl |exact .inl rfl |exact .inr rfl |exact id |exact(fun h=>Bool.noConfusion h)|refine And.intro ?_ ?_)
   refine(aBS (iO l i) i (by rw [oK];exact h3) z.free true).trans ?_
   rw [aKS l i h3,←aKT l i h3,hz]
   rfl
 have h3:i=l.length:=by simp at h3;omega
 subst h3
 rw [aKR]
 refine Wk ?_
 try subst hk
 exact⟨[some 0],Cl,rfl,Cl,rfl,Cl⟩
end Go.Proofs.YtmhapcbjjpadnaaGreat
set_option maxRecDepth 40000
namespace Go.Proofs.YtmhapcbjjpadnaaGreat
open Go Go.Sk Go.RowKit
structure aR4(z:Zn):Prop where
 first :1≤z.first
 size:1≤z.size∧z.size≤64
 stop:z.first+z.size≤65
 marks:0≤z.min∧z.min≤z.low∧z.low≤z.high∧z.high≤z.size
 asc:vG z.first (z.first+z.size) z.free z.free.length=true
theorem pG {z:Zn} {f:Int} (hf:1≤f∧f≤65)(h:lF z f=true):aR4 z∧z.first=f∧sV z=f+z.size:=by
 rw [lF] at h
 cases h1:oT z f with
 |true=>rw [h1] at h;cases h
 |false=>
  cases h2:oV z with
  |true=>rw [h1,h2] at h;cases h
  |false=>
   rw [h1,h2] at h
   simp only [cond_false] at h
   simp only [oT,zJ,decide_eq_false_iff_not,bne_eq_false_iff_eq] at h1
   simp only [oV,zJ,decide_eq_false_iff_not] at h2
   have he:sV z=z.first+z.size:=by rw [sV,aY (by omega) (by omega)]
   rw [he] at h h1
   exact⟨⟨by omega,by omega,by omega,by omega,h⟩,by omega,by omega⟩
theorem aEI:∀(l:List Zn) (f:Int),1≤f∧f≤65→aC8 f l=true→∀z∈l,aR4 z
 | [],_,_,_=>by simp
 |z::r,f,hf,h=>by
  simp only [aC8,zM] at h
  obtain⟨g,h1,h2⟩:=pG hf h.1
  have :=g.stop
  have :=g.size
  intro y hy
  rcases List.mem_cons.1 hy with rfl |hy
  ·exact g
  ·exact aEI r _ (by omega) h.2 y hy
theorem aC7 {l:List Zn} (h:bH l=true):∀z∈l,aR4 z:=by
 simp only [bH,zM] at h
 exact aEI l 1 (by decide) h.1
def jO(g:Zn→Int):List Zn→Int
 | []=>0
 |z::r=>g z+jO g r
def aN1(z:Zn):Int:=z.free.length
def aZ2(l:List Zn):Int:=bif bH l then jO aN1 l else 0
def inG(f:Int)(z:Zn):Bool:=bif decide (z.first≤f) then decide (f<sV z) else false
set_option maxRecDepth 20000 in
theorem bG3(z:Zn)(f:Int):aQ Tryz.prog 318 [] [.agg z.c,.rp 1 [.int .i64 f] 0] (.bool (inG f z)) []:=by
 refine aF (ob0:= []) [] Tryz.func318 rfl rfl rfl rfl ?_
 refine dF (aNU z) ?_
 try subst hk
 exact Lf
theorem call58:eP Tryz.prog 318:=⟨_,Tryz.func318,rfl,rfl⟩
end Go.Proofs.YtmhapcbjjpadnaaGreat
set_option maxRecDepth 40000
namespace Go.Proofs.YtmhapcbjjpadnaaGreat
open Go Go.Sk Go.RowKit
def qQ(u:Bool)(z:Zn):Int:=bif u then 0 else z.min
def nF(u:Bool)(z:Zn):Bool:=decide (qQ u z< (z.free.length:Int))
def eM(l:List Zn)(u:Bool):Nat→Option Nat
 |0=>none
 |i+1=>bif nF u (l.getD i fL) then some i else eM l u i
def aM4(z:Zn):Zn:=⟨z.first,z.size,z.min,z.low,z.high,z.free.drop 1,false⟩
def bX(base l:List Zn)(p:Int)(u:Bool):List Zn×Int×Int:=
 bif !bH l then(base,0,1) else bif decide (p<0)||decide ((l.length:Int)≤p) then(base,0,2) else
 match eM l u (p+1).toNat with
 |some i=>(base.set i (aM4 (l.getD i fL)),(l.getD i fL).free.getD 0 0,0)
 |none=>(base,0,3)
theorem aCN(l:List Zn)(i:Nat)(h:i<l.length):l.getD i fL=l[i]:=by simp [List.getD_eq_getElem?_getD,h]
theorem uB(l:List Zn)(i:Nat)(h:i<l.length):(aW (l.map fH)).getD i []=(fH l[i]).c:=by
 rw [iG _ i (by simpa using h)];simp
theorem drop1(l:List Int):((aJ l).take (aJ l).length).drop (1:Int).toNat=aJ (l.drop 1):=by
 rw [List.take_length,aJ,aJ,List.map_drop];rfl
set_option maxRecDepth 20000 in
theorem aZE(l:List Zn)(t:Bool)(p:Int)(u:Bool)(hl:kG l):aQ Tryz.prog 109 [] [.lst 6 t (aW l),.int .i64 p,.bool u] (.tup [.lst 6 false (aW (bX (l.map fH) l p u).1),.int .i64 (bX (l.map fH) l p u).2.1,.int .i64 (bX (l.map fH) l p u).2.2]) []:=by
 have hlen:=hl.len
 refine aF (ob0:= []) [] Tryz.func109 rfl rfl rfl rfl ?_
 generalize hk:bX (l.map fH) l p u=q
 refine Wk ?_
 refine .inr ⟨fun _=>⟨[],_,_,_,aZW l t hl,trivial,rfl,rfl,rfl,?_⟩,(by intro h;cases h)⟩
 refine dF (aTF l t hl) ?_
 refine aI (fun h1=>?_) (fun h1=>?_)<;> try simp only [zD,zC,zF,zE,zH] at h1
 ·have h1:(!bH l)=true:=by rw [h1];rfl
  simp only [bX,h1,cond_true] at hk
  subst hk
  refine Wk ?_
  refine⟨[],trivial,rfl,trivial,rfl,?_⟩
  try subst hk
  repeat' (first |exact trivial |rfl |exact .inl rfl |exact .inr rfl |exact id |exact(fun h=>Bool.noConfusion h)|refine And.intro ?_ ?_)
  ·show 0+l.length≤_
   rw [aG];simp
  ·refine eF ?_
   rw [aG];simp
 have h1':bH l=true:=by simpa using h1
 have h1:(!bH l)=false:=by rw [h1'];rfl
 have hg:=aC7 h1'
 simp only [bX,h1,cond_false] at hk
 refine Wk ?_
 rw [aG]
 refine aI (fun h2=>?_) (fun h2=>?_)<;> try simp only [zD,zC,zF,zE,zH] at h2
 ·simp only [h2,cond_true] at hk
  subst hk
  refine Wk ?_
  refine⟨[],trivial,rfl,trivial,rfl,?_⟩
  try subst hk
  repeat' (first |exact trivial |rfl |exact .inl rfl |exact .inr rfl |exact id |exact(fun h=>Bool.noConfusion h)|refine And.intro ?_ ?_)
  ·show 0+l.length≤_
   rw [aG];simp
  ·refine eF ?_
   rw [aG];simp
 simp only [h2,cond_false] at hk
 simp only [zJ,decide_eq_false_iff_not] at h2
 refine Wk ?_
 refine⟨Int,fun i=>(-1≤i∧i<l.length)∧eM l u (i+1).toNat=eM l u (p+1).toNat,fun i=>⟨[(2,⟨[],true,.bool u⟩),(9,⟨[],true,.sl 0 0 l.length⟩),(10,⟨[],true,.int .i64 i⟩)],[(0,.row 6 (aW (l.map fH)))],1⟩,fun i=>(i+1).toNat,⟨p,⟨by omega,rfl⟩,?_⟩,fun i hI=>?_⟩
 ·exact Vq [some _]
 obtain⟨⟨hI1,hI2⟩,hI3⟩:=hI
 refine Wk ?_
 refine aI (fun h3=>?_) (fun h3=>?_)<;> try simp only [zD,zC,zF,zE,zH] at h3
 ·have h3:0≤i:=by simpa using h3
  obtain⟨n,rfl⟩:∃n:Nat,i=n:=⟨i.toNat,by omega⟩
  have hn:n<l.length:=by omega
  refine Wk ?_
  first |refine aE (⟨by omega,by omega⟩) ?_ |refine aM (fun _=>⟨by omega,by omega⟩) ?_ |refine⟨fun _=>⟨by omega,by omega⟩,?_⟩
  refine Wk ?_
  first |refine aE (by rw [aG];simp;omega) ?_ |refine aM (fun _=>by rw [aG];simp;omega) ?_ |refine⟨fun _=>by rw [aG];simp;omega,?_⟩
  refine Wk ?_
  rw [zG,zA,uB l n hn]
  refine Wk ?_
  refine aI (fun hu=>?_) (fun hu=>?_)<;> try simp only [zD,zC,zF,zE,zH] at hu
  ·refine Wk ?_
   first |refine aE (⟨by omega,by omega⟩) ?_ |refine aM (fun _=>⟨by omega,by omega⟩) ?_ |refine⟨fun _=>⟨by omega,by omega⟩,?_⟩
   refine Wk ?_
   first |refine aE (by rw [aG];simp;omega) ?_ |refine aM (fun _=>by rw [aG];simp;omega) ?_ |refine⟨fun _=>by rw [aG];simp;omega,?_⟩
   refine Wk ?_
   rw [zG,zA,uB l n hn]
   refine Wk ?_
   rw [aB]
   refine aI (fun h4=>?_) (fun h4=>?_)<;> try simp only [zD,zC,zF,zE,zH] at h4
   ·have h4:nF u l[n]=true:=by rw [nF,qQ,hu];exact h4
    have hpos:0<l[n].free.length:=by
     have :=(hg l[n] (zI hn)).marks
     simp only [nF,qQ,hu,decide_eq_true_eq,cond_true,cond_false] at h4
     omega
    have hst:eM l u (n+1)=some n:=by simp only [eM,aCN l n hn,h4,cond_true]
    rw [←hI3,show((n:Int)+1).toNat=n+1 by omega,hst] at hk
    simp only [aCN l n hn] at hk
    refine Wk ?_
    first |refine aE (⟨by omega,by omega⟩) ?_ |refine aM (fun _=>⟨by omega,by omega⟩) ?_ |refine⟨fun _=>⟨by omega,by omega⟩,?_⟩
    refine Wk ?_
    first |refine aE (by rw [aG];simp;omega) ?_ |refine aM (fun _=>by rw [aG];simp;omega) ?_ |refine⟨fun _=>by rw [aG];simp;omega,?_⟩
    refine Wk ?_
    rw [zG,zA,uB l n hn]
    refine Wk ?_
    first |refine aE (⟨rfl,by decide,by rw [aB];show(0:Int)< (l[n].free.length:Int);omega⟩) ?_ |refine aM (fun _=>⟨rfl,by decide,by rw [aB];show(0:Int)< (l[n].free.length:Int);omega⟩) ?_ |refine⟨fun _=>⟨rfl,by decide,by rw [aB];show(0:Int)< (l[n].free.length:Int);omega⟩,?_⟩
    rw [show((0:Int)).toNat=0 from rfl,dJ _ 0 (by exact hpos)]
    refine Wk ?_
    first |refine aE (⟨by omega,by omega⟩) ?_ |refine aM (fun _=>⟨by omega,by omega⟩) ?_ |refine⟨fun _=>⟨by omega,by omega⟩,?_⟩
    refine Wk ?_
    first |refine aE (by rw [aG];simp;omega) ?_ |refine aM (fun _=>by rw [aG];simp;omega) ?_ |refine⟨fun _=>by rw [aG];simp;omega,?_⟩
    refine Wk ?_
    rw [zG,zA,uB l n hn]
    refine Wk ?_
    first |refine aE (⟨.inl rfl,by decide,by rw [aB];show(1:Int)≤(l[n].free.length:Int);omega,zK _⟩) ?_ |refine aM (fun _=>⟨.inl rfl,by decide,by rw [aB];show(1:Int)≤(l[n].free.length:Int);omega,zK _⟩) ?_ |refine⟨fun _=>⟨.inl rfl,by decide,by rw [aB];show(1:Int)≤(l[n].free.length:Int);omega,zK _⟩,?_⟩
    rw [zA,drop1]
    refine Wk ?_
    first |refine aE (⟨by omega,by omega⟩) ?_ |refine aM (fun _=>⟨by omega,by omega⟩) ?_ |refine⟨fun _=>⟨by omega,by omega⟩,?_⟩
    refine Wk ?_
    first |refine aE (by rw [aG];simp;omega) ?_ |refine⟨by rw [aG];simp;omega,?_⟩
    refine Wk ?_
    subst hk
    refine⟨[],trivial,rfl,trivial,rfl,?_⟩
    try subst hk
    repeat' (first |exact trivial |rfl |exact .inl rfl |exact .inr rfl |exact id |exact(fun h=>Bool.noConfusion h)|refine And.intro ?_ ?_)
    ·show 0+l.length≤_
     rw [List.length_set,aG];simp
    ·rw [zG,zA]
     refine(congrArg (fun r=>List.take l.length (List.drop 0 r)) (aBS (l.map fH) n (by simp;omega) (l[n].free.drop 1) false)).trans ?_
     refine(eF (by rw [aG];simp)).trans ?_
     simp only [zN]
     rfl
    ·exact fV _ 0 hpos
   have h4:nF u l[n]=false:=by rw [nF,qQ,hu];exact h4
   have hst:eM l u (n+1)=eM l u n:=by simp only [eM,aCN l n hn,h4,cond_false]
   refine Wk ?_
   rw [aY (n:=(n:Int)-1) (by omega) (by omega)]
   refine⟨(n:Int)-1,⟨by omega,by rw [show((n:Int)-1+1).toNat=n by omega,←hst,←hI3,show((n:Int)+1).toNat=n+1 by omega]⟩,?_,by show((n:Int)-1+1).toNat< ((n:Int)+1).toNat;omega⟩
   exact Vw [some 0]
  refine Wk ?_
  first |refine aE (⟨by omega,by omega⟩) ?_ |refine aM (fun _=>⟨by omega,by omega⟩) ?_ |refine⟨fun _=>⟨by omega,by omega⟩,?_⟩
  refine Wk ?_
  first |refine aE (by rw [aG];simp;omega) ?_ |refine aM (fun _=>by rw [aG];simp;omega) ?_ |refine⟨fun _=>by rw [aG];simp;omega,?_⟩
  refine Wk ?_
  rw [zG,zA,uB l n hn]
  refine Wk ?_
  rw [aB]
  refine aI (fun h4=>?_) (fun h4=>?_)<;> try simp only [zD,zC,zF,zE,zH] at h4
  ·have h4:nF u l[n]=true:=by rw [nF,qQ,hu];exact h4
   have hpos:0<l[n].free.length:=by
    have :=(hg l[n] (zI hn)).marks
    simp only [nF,qQ,hu,decide_eq_true_eq,cond_true,cond_false] at h4
    omega
   have hst:eM l u (n+1)=some n:=by simp only [eM,aCN l n hn,h4,cond_true]
   rw [←hI3,show((n:Int)+1).toNat=n+1 by omega,hst] at hk
   simp only [aCN l n hn] at hk
   refine Wk ?_
   first |refine aE (⟨by omega,by omega⟩) ?_ |refine aM (fun _=>⟨by omega,by omega⟩) ?_ |refine⟨fun _=>⟨by omega,by omega⟩,?_⟩
   refine Wk ?_
   first |refine aE (by rw [aG];simp;omega) ?_ |refine aM (fun _=>by rw [aG];simp;omega) ?_ |refine⟨fun _=>by rw [aG];simp;omega,?_⟩
   refine Wk ?_
   rw [zG,zA,uB l n hn]
   refine Wk ?_
   first |refine aE (⟨rfl,by decide,by rw [aB];show(0:Int)< (l[n].free.length:Int);omega⟩) ?_ |refine aM (fun _=>⟨rfl,by decide,by rw [aB];show(0:Int)< (l[n].free.length:Int);omega⟩) ?_ |refine⟨fun _=>⟨rfl,by decide,by rw [aB];show(0:Int)< (l[n].free.length:Int);omega⟩,?_⟩
   rw [show((0:Int)).toNat=0 from rfl,dJ _ 0 (by exact hpos)]
   refine Wk ?_
   first |refine aE (⟨by omega,by omega⟩) ?_ |refine aM (fun _=>⟨by omega,by omega⟩) ?_ |refine⟨fun _=>⟨by omega,by omega⟩,?_⟩
   refine Wk ?_
   first |refine aE (by rw [aG];simp;omega) ?_ |refine aM (fun _=>by rw [aG];simp;omega) ?_ |refine⟨fun _=>by rw [aG];simp;omega,?_⟩
   refine Wk ?_
   rw [zG,zA,uB l n hn]
   refine Wk ?_
   first |refine aE (⟨.inl rfl,by decide,by rw [aB];show(1:Int)≤(l[n].free.length:Int);omega,zK _⟩) ?_ |refine aM (fun _=>⟨.inl rfl,by decide,by rw [aB];show(1:Int)≤(l[n].free.length:Int);omega,zK _⟩) ?_ |refine⟨fun _=>⟨.inl rfl,by decide,by rw [aB];show(1:Int)≤(l[n].free.length:Int);omega,zK _⟩,?_⟩
   rw [zA,drop1]
   refine Wk ?_
   first |refine aE (⟨by omega,by omega⟩) ?_ |refine aM (fun _=>⟨by omega,by omega⟩) ?_ |refine⟨fun _=>⟨by omega,by omega⟩,?_⟩
   refine Wk ?_
   first |refine aE (by rw [aG];simp;omega) ?_ |refine⟨by rw [aG];simp;omega,?_⟩
   refine Wk ?_
   subst hk
   refine⟨[],trivial,rfl,trivial,rfl,?_⟩
   try subst hk
   repeat' (first |exact trivial |rfl |exact .inl rfl |exact .inr rfl |exact id |exact(fun h=>Bool.noConfusion h)|refine And.intro ?_ ?_)
   ·show 0+l.length≤_
    rw [List.length_set,aG];simp
   ·rw [zG,zA]
    refine(congrArg (fun r=>List.take l.length (List.drop 0 r)) (aBS (l.map fH) n (by simp;omega) (l[n].free.drop 1) false)).trans ?_
    refine(eF (by rw [aG];simp)).trans ?_
    simp only [zN]
    rfl
   ·exact fV _ 0 hpos
  have h4:nF u l[n]=false:=by rw [nF,qQ,hu];exact h4
  have hst:eM l u (n+1)=eM l u n:=by simp only [eM,aCN l n hn,h4,cond_false]
  refine Wk ?_
  rw [aY (n:=(n:Int)-1) (by omega) (by omega)]
  refine⟨(n:Int)-1,⟨by omega,by rw [show((n:Int)-1+1).toNat=n by omega,←hst,←hI3,show((n:Int)+1).toNat=n+1 by omega]⟩,?_,by show((n:Int)-1+1).toNat< ((n:Int)+1).toNat;omega⟩
  exact Vw [some 0]
 have h3:i= -1:=by simp at h3;omega
 subst h3
 rw [←hI3] at hk
 have hk:(l.map fH,(0:Int),(3:Int))=q:=hk
 subst hk
 refine Wk ?_
 refine⟨[],trivial,rfl,trivial,rfl,?_⟩
 try subst hk
 repeat' (first |exact trivial |rfl |exact .inl rfl |exact .inr rfl |exact id |exact(fun h=>Bool.noConfusion h)|refine And.intro ?_ ?_)
 ·show 0+l.length≤_
  rw [aG];simp
 ·refine eF ?_
  rw [aG];simp
end Go.Proofs.YtmhapcbjjpadnaaGreat
set_option maxRecDepth 40000
namespace Go.Proofs.YtmhapcbjjpadnaaGreat
open Go Go.Sk Go.RowKit
end Go.Proofs.YtmhapcbjjpadnaaGreat
set_option maxRecDepth 40000
namespace Go.Proofs.YtmhapcbjjpadnaaGreat
open Go Go.Sk Go.RowKit
end Go.Proofs.YtmhapcbjjpadnaaGreat
