/- Caches. -/
import Derived.Test.YtmhapcbjjpadnaaGreatGA
set_option linter.unusedSimpArgs false
set_option linter.unusedVariables false
open Bool renaming cond_false_right→zC,cond_true_left→zD,not_eq_false'→zE,not_eq_true'→zG,not_not→zK
open Int renaming toNat_natCast→zH
open List renaming getD_eq_getElem?_getD→zA,length_append→zF,length_singleton→zI,length_set→zJ,getElem?_eq_getElem→zL,append_nil→zN,length_filter_le→zO,ne_nil_of_mem→zQ,take_length→zR
open Nat renaming not_lt_zero→zM,pow_le_pow_right→zP,zero_le→zS
set_option maxRecDepth 40000
namespace Go.Proofs.YtmhapcbjjpadnaaGreat
open Go Go.Sk Go.RowKit
def sQ(E:cK):Prop:=∀j,16≤j→(E j).1=0
def mxE(E:cK):Nat→Nat
 |0=>0
 |n+1=>bif (E n).1==0 then mxE E n else n
theorem kD(E:cK):∀n,(∀j,j<n→(E j).1≠0→j≤mxE E n)∧(mxE E n=0∨(mxE E n<n∧(E (mxE E n)).1≠0))
 |0=>⟨fun j h=>absurd h (zM j),.inl rfl⟩
 |n+1=>by
  obtain⟨h1,h2⟩:=kD E n
  rw [mxE]
  cases hv:((E n).1==0) with
  |true=>
   have hv:(E n).1=0:=by simpa using hv
   simp only [cond_true]
   refine⟨fun j hj he=>?_,h2.elim .inl fun h=>.inr ⟨by omega,h.2⟩⟩
   by_cases e:j=n
   ·subst e;exact absurd hv he
   ·exact h1 j (by omega) he
  |false=>
   have hv:(E n).1≠0:=by simpa using hv
   simp only [cond_false]
   exact⟨fun j hj _=>by omega,.inr ⟨by omega,hv⟩⟩
def aDF(l:List Nat):Nat:=l.foldl max 0
theorem aPW(l:List Nat)(x:Nat):aDF (l++ [x])=max (aDF l) x:=by simp [aDF,List.foldl_append]
theorem aFD(l:List Nat):(∀j∈l,j≤aDF l)∧(aDF l=0∨aDF l∈l):=by
 have key:∀(l:List Nat) (m:Nat),(m≤l.foldl max m∧∀j∈l,j≤l.foldl max m)∧(l.foldl max m=m∨l.foldl max m∈l):=by
  intro l
  induction l with
  |nil=>exact fun m=>⟨⟨Nat.le_refl _,by simp⟩,.inl rfl⟩
  |cons x r ih=>
   intro m
   obtain⟨⟨h1,h2⟩,h3⟩:=ih (max m x)
   rw [List.foldl_cons]
   refine⟨⟨by omega,fun j hj=>?_⟩,?_⟩
   ·rcases List.mem_cons.1 hj with rfl |hj
    ·omega
    ·exact h2 j hj
   ·rcases h3 with h3 |h3
    ·rw [h3]
     by_cases e:m≤x
     ·right;rw [Nat.max_eq_right e];exact List.mem_cons_self
     ·left;exact Nat.max_eq_left (by omega)
    ·exact .inr (List.mem_cons_of_mem _ h3)
 exact⟨(key l 0).1.2,(key l 0).2⟩
theorem aWW {E:cK} {l:List Nat} (h1:∀j∈l,j<16)(h2:∀j,j<16→(j∈l↔(E j).1≠0)):aDF l=mxE E 16:=by
 obtain⟨a1,a2⟩:=aFD l
 obtain⟨b1,b2⟩:=kD E 16
 apply Nat.le_antisymm
 ·rcases a2 with a2 |a2
  ·omega
  ·exact b1 _ (h1 _ a2) ((h2 _ (h1 _ a2)).1 a2)
 ·rcases b2 with b2 |b2
  ·omega
  ·exact a1 _ ((h2 _ b2.1).2 b2.2)
def hgt(E:cK):Nat:=htE (mxE E 16)
def can(E:cK):List V:=.int .i64 (hgt E:Int)::sub E (hgt E) 0
theorem lA(i:Nat):htE i≤2:=by unfold htE;cases Nat.beq i 0 <;> cases Nat.blt i 4 <;> decide
theorem aGU {i:Nat} (h:i<16):i<4^htE i:=by
 have key:∀i:Fin 16,i.val<4^htE i.val:=by decide
 exact key ⟨i,h⟩
theorem aA3(E:cK):mxE E 16<16:=by rcases(kD E 16).2 with h |h <;> omega
theorem rV {E:cK} (hs:sQ E):∀j,4^hgt E≤j→(E j).1=0:=fun j hj=>by
 by_cases h0:(E j).1=0
 ·exact h0
 ·by_cases h1:j<16
  ·have :=(kD E 16).1 j h1 h0
   have :=aGU (aA3 E)
   unfold hgt at hj;omega
  ·exact hs j (by omega)
theorem aF6 {E:cK} {m:Nat} (hm:(E m).1≠0):∀n,m<n→(∀j,m<j→j<n→(E j).1=0)→∃r,bN E 0 n=r++ [m]
 |0,h,_=>absurd h (zM m)
 |n+1,h,hz=>by
  rw [bN,Nat.zero_add]
  by_cases e:n=m
  ·subst e
   exact⟨bN E 0 n,by rw [show((E n).1==0)=false from beq_eq_false_iff_ne.2 hm];rfl⟩
  ·rw [show((E n).1==0)=true from beq_iff_eq.2 (hz n (by omega) (by omega)),cond_true,zN]
   exact aF6 hm n (by omega) fun j h1 h2=>hz j h1 (by omega)
theorem aC4 {E:cK} (hs:sQ E):aUS (bN E 0 (4^hgt E)) (hgt E):=by
 obtain⟨b1,b2⟩:=kD E 16
 have hp:=aGU (aA3 E)
 by_cases h0:(E (mxE E 16)).1=0
 ·have hm:mxE E 16=0:=by rcases b2 with b2 |b2;exact b2;exact absurd h0 b2.2
  have hh:hgt E=0:=by unfold hgt;rw [hm];rfl
  rw [hm] at h0
  have h1n:fF E 0 (4^0)=true:=gP.2 fun i hi=>by
   obtain rfl:i=0:=by have :(4:Nat)^0=1:=rfl;omega
   exact h0
  rw [hh,rW h1n]
  exact rfl
 ·obtain⟨r,hr⟩:=aF6 h0 (4^hgt E) hp fun j h1 h2=>by
   by_cases h3:(E j).1=0
   ·exact h3
   ·by_cases h4:j<16
    ·have :=b1 j h4 h3;omega
    ·exact hs j (by omega)
  rw [hr]
  have hl:aDB (r++ [mxE E 16])=mxE E 16:=by simp [aDB]
  cases r with
  |nil=>exact congrArg htE hl
  |cons x r=>exact congrArg htE hl
set_option maxRecDepth 20000 in
theorem aZM {E:cK} (hE:bG E)(l:List Nat)(t:Bool)(h1:∀j∈l,j<16)(h2:∀j,j<16→(j∈l↔(E j).1≠0))(hl:l.length≤100000):aN Tryz.prog 219 [] [.lst 3 t (bK E l)] (.agg (can E)) []:=by
 have k295:aN Tryz.prog 295 [] [.int .i64 (mxE E 16:Nat)] (.int .i64 (hgt E:Int)) []:=bA1 (mxE E 16) (aA3 E)
 have hh:=lA (mxE E 16)
 have hp:4^hgt E≤16:=zP (n:=4) (by decide) hh
 have k296:=bGD hE (hgt E) 0 l t (by unfold hgt;omega) (by omega) (fun j _ hj=>h2 j (by omega)) (fun j hj=>by have :=h1 j hj;omega) hl
 have hmx:=aWW h1 h2
 have hmt:∀k,aDF (l.take k)<16:=fun k=>by
  rcases(aFD (l.take k)).2 with h |h
  ·omega
  ·exact h1 _ (List.mem_of_mem_take h)
 unfold can
 obtain⟨k0,k1,k2,k3,e⟩:=gZ hE (hgt E) 0
 rw [e] at k296⊢
 refine aF (ob0:= []) [] Tryz.func219 rfl rfl rfl rfl ?_
 refine Wk ?_
 refine⟨Nat,fun k=>k≤l.length,fun k=>⟨[(0,⟨[],true,.lst 3 t (bK E l)⟩),(2,⟨[],true,.ptr 0 0 0⟩),(3,⟨[],true,.int .i64 (aDF (l.take k):Nat)⟩),(4,⟨[],true,.int .i64 (k:Int)⟩)],[(0,.box [.int .i64 0,bP,.int .i64 0,.int .i64 0])],1⟩,fun k=>l.length-k,⟨0,zS _,?_⟩,fun k hI=>?_⟩
 ·exact Vw [some 0]
 dsimp only at hI⊢
 refine Wk ?_
 rw [aK]
 refine aC (fun b1=>?_) (fun b1=>?_)<;> try simp only [zD,zC,zG,zE,zK] at b1
 ·have b1:k<l.length:=by simp at b1;omega
  have hs:=aPW (l.take k) (l.getD k 0)
  rw [←aBF 0 b1] at hs
  refine Wk ?_
  first |refine aB (⟨rfl,by omega,by rw [aK];omega⟩) ?_ |refine aH (fun _=>⟨rfl,by omega,by rw [aK];omega⟩) ?_ |refine⟨fun _=>⟨rfl,by omega,by rw [aK];omega⟩,?_⟩
  rw [zH,jN E l k b1]
  refine Wk ?_
  rw [show max ((aDF (l.take k):Nat):Int) ((l.getD k 0:Nat):Int)=((max (aDF (l.take k)) (l.getD k 0):Nat):Int) by omega,←hs,dG (by omega)]
  refine⟨k+1,by show k+1≤_;omega,?_,by show l.length- (k+1)<l.length-k;omega⟩
  exact Vw [some 0]
 have b1:k=l.length:=by simp at b1;omega
 subst b1
 rw [zR,hmx]
 refine vJ k295 k296 ?_
 try subst hk
 exact Lf
theorem bI {E:cK} (hE:bG E):∃k n xs v,can E=[.int .i64 (hgt E:Int),.lst k n xs,.int .i64 v,.int .i64 (kL E 0 (4^hgt E):Nat)]:=by
 obtain⟨k0,k1,k2,k3,e⟩:=gZ hE (hgt E) 0
 exact⟨k0,k1,k2,k3,by rw [can,e]⟩
theorem aTJ {E:cK} (hE:bG E)(hs:sQ E):aN Tryz.prog 218 [] [.agg (can E)] (.bool true) []:=aTI hE _ (lA _) (aC4 hs)
theorem aNE {E:cK} {m:Nat} (hz:∀j,m≤j→(E j).1=0):∀ {n},m≤n→bN E 0 n=bN E 0 m
 |0,h=>by obtain rfl:m=0:=by omega
          rfl
 |n+1,h=>by
  by_cases e:m=n+1
  ·subst e;rfl
  ·rw [bN,Nat.zero_add,show((E n).1==0)=true from beq_iff_eq.2 (hz n (by omega)),cond_true,zN,aNE hz (by omega)]
theorem aGV {E:cK} (hs:sQ E):bN E 0 (4^hgt E)=bN E 0 16:=(aNE (rV hs) (zP (n:=4) (by decide) (lA _))).symm
theorem bCE {E:cK} (hE:bG E)(hs:sQ E):aN Tryz.prog 216 [] [.agg (can E)] (aPT E (bN E 0 16)) []:=by
 have :=aZK hE (hgt E) (lA _) (aC4 hs)
 rwa [aGV hs] at this
theorem bCG {E:cK} (hE:bG E)(hs:sQ E)(hn:bN E 0 16≠ []):aN Tryz.prog 216 [] [.agg (can E)] (.sl 0 0 (bN E 0 16).length) [.row 3 (bK E (bN E 0 16))]:=by
 have :=bCF hE (hgt E) (lA _) (aC4 hs) (by
  cases h:fF E 0 (4^hgt E) with
  |false=>rfl
  |true=>exact absurd (rW h) (by rw [aGV hs];exact hn))
 rwa [aGV hs] at this
theorem aT1 {E:cK} (hE:bG E)(hs:sQ E)(i:Int):aN Tryz.prog 117 [] [.agg (can E),.int .i64 i] (.int .i64 (tW E i)) []:=bEZ hE _ (lA _) (aC4 hs) (rV hs) i
end Go.Proofs.YtmhapcbjjpadnaaGreat
set_option maxRecDepth 40000
namespace Go.Proofs.YtmhapcbjjpadnaaGreat
open Go Go.Sk Go.RowKit
def cO(E:cK)(i:Nat)(p:Int×Nat):cK:=fun j=>bif Nat.beq j i then p else E j
theorem dS(E:cK)(i:Nat)(p:Int×Nat):cO E i p i=p:=by simp [cO]
theorem cS {E:cK} {i j:Nat} {p:Int×Nat} (h:j≠i):cO E i p j=E j:=by
 unfold cO;rw [show Nat.beq j i=false from Bool.eq_false_iff.2 fun e=>h (Nat.eq_of_beq_eq_true e)];rfl
theorem bG.set {E:cK} (h:bG E) {i:Nat} {p:Int×Nat} (h1:p.2<8)(h2:p.1≤0→p.2=0):bG (cO E i p):=by
 first |refine aC (fun j=>?_) (fun j=>?_)<;> by_cases e:j=i |refine⟨fun j=>?_,fun j=>?_⟩<;> by_cases e:j=i
 ·subst e;rw [dS];exact h1
 ·rw [cS e];exact h.small j
 ·subst e;rw [dS];exact h2
 ·rw [cS e];exact h.none j
theorem sQ.set {E:cK} (h:sQ E) {i:Nat} (hi:i<16)(p:Int×Nat):sQ (cO E i p):=fun j hj=>by rw [cS (by omega)];exact h j hj
theorem aPU(E:cK)(l:List Nat):∃k t,aPT E l=.lst k t (bK E l)∧(0<l.length→k=3):=by
 cases l with
 |nil=>exact⟨0,true,rfl,fun h=>absurd h (by decide)⟩
 |cons x r=>exact⟨3,false,rfl,fun _=>rfl⟩
theorem aQK {E:cK} {i:Nat} {p:Int×Nat} {l:List Nat} (h:∀j∈l,j≠i):bK (cO E i p) l=bK E l:=by
 unfold bK
 exact List.map_congr_left fun j hj=>by unfold mZ;rw [cS (h j hj)]
def neB(i j:Nat):Bool:=(j:Int) != (i:Int)
theorem aNP {i j:Nat} :neB i j=true↔j≠i:=by
 unfold neB;rw [bne_iff_ne];omega
set_option maxRecDepth 20000 in
theorem aT2 {E:cK} (hE:bG E)(hs:sQ E)(i:Nat)(hi:i<16)(v:Int):aN Tryz.prog 118 [] [.agg (can E),.int .i64 (i:Int),.int .i64 v] (.tup [.agg (can (cO E i (v,0))),.int .i64 0]) []:=by
 have k218:=aTJ hE hs
 have k216:=bCE hE hs
 have hE':bG (cO E i (v,0)):=hE.set (Nat.zero_lt_succ _) (fun _=>rfl)
 have hlen:=jY E 0 16
 have hmem:∀j∈bN E 0 16,j<16:=fun j hj=>by have :=iX.1 hj;omega
 have hmem2:∀j,j<16→(j∈bN E 0 16↔(E j).1≠0):=fun j hj=>by
  rw [iX];exact⟨fun h=>h.2.2,fun h=>⟨by omega,by omega,h⟩⟩
 have k219:=fun L h1 h2 hl=>aZM hE' L false h1 h2 hl
 obtain⟨k0,k1,k2,k3,e⟩:=bI hE
 obtain⟨q0,q1,q2,q3,e'⟩:=bI hE'
 obtain⟨kk,tt,hf,hk3⟩:=aPU E (bN E 0 16)
 rw [hf,e] at k216
 rw [e] at k218⊢
 rw [e'] at k219⊢
 generalize bN E 0 16=l at hlen hmem hmem2 k216 hk3
 clear hf
 refine aF (ob0:= []) [.c 45] Tryz.func118 rfl rfl rfl rfl ?_
 refine vJ k218 k216 ?_
 rw [show decide ((i:Int)<0)=false from decide_eq_false (by omega),show decide ((255:Int)< (i:Int))=false from decide_eq_false (by omega)]
 refine vJ k218 k216 ?_
 refine⟨Nat,fun k=>k≤l.length,fun k=>⟨[(1,⟨[],true,.int .i64 (i:Int)⟩),(2,⟨[],true,.int .i64 v⟩),(6,⟨[],true,.ptr 0 0 0⟩),(8,⟨[],true,.lst kk tt (bK E l)⟩),(9,⟨[],true,.sl 1 0 ((l.take k).filter (neB i)).length⟩),(10,⟨[],true,.int .i64 (k:Int)⟩)],
  [(0,.box [.int .i64 0,bP,.int .i64 0,.int .i64 0]),(1,.row 3 (bK E ((l.take k).filter (neB i))))],2⟩,fun k=>l.length-k,⟨0,zS _,?_⟩,fun k hI=>?_⟩
 ·exact Vw [some 1,none]
 dsimp only at hI⊢
 have hfl:((l.take k).filter (neB i)).length≤16:=by
  have :=zO (neB i) (l.take k)
  have :=List.length_take_le k l
  omega
 refine Wk ?_
 rw [aK]
 refine aC (fun b1=>?_) (fun b1=>?_)<;> try simp only [zD,zC,zG,zE,zK] at b1
 ·have b1:k<l.length:=by simp at b1;omega
  obtain rfl:=hk3 (by omega)
  have hft:=qT (neB i) l k 0 b1
  have hg:=jN E l k b1
  have hib:(((l.getD k 0:Nat):Int) != (i:Int))=neB i (l.getD k 0):=rfl
  generalize l.getD k 0=j at hft hg hib
  generalize(l.take k).filter (neB i)=F at hft hfl
  refine Wk ?_
  first |refine aB (⟨rfl,by omega,by rw [aK];omega⟩) ?_ |refine aH (fun _=>⟨rfl,by omega,by rw [aK];omega⟩) ?_ |refine⟨fun _=>⟨rfl,by omega,by rw [aK];omega⟩,?_⟩
  rw [zH,hg]
  refine Wk ?_
  rw [hib]
  refine aC (fun b2=>?_) (fun b2=>?_)<;> try simp only [zD,zC,zG,zE,zK] at b2
  ·rw [b2,cond_true] at hft
   refine Wk ?_
   first |refine aB (⟨rfl,by omega,by rw [aK];omega⟩) ?_ |refine aH (fun _=>⟨rfl,by omega,by rw [aK];omega⟩) ?_ |refine⟨fun _=>⟨rfl,by omega,by rw [aK];omega⟩,?_⟩
   rw [zH,hg]
   refine Wk ?_
   refine aB (aK E F).symm (bA (by rw [aK];show((F.length+1:Nat):Int)≤_;omega) (by rw [aK];show(F.length+1)*24≤_;omega) ?_)
   refine Wk ?_
   rw [dG (by omega)]
   refine⟨k+1,by show k+1≤_;omega,?_,by show l.length- (k+1)<l.length-k;omega⟩
   dsimp only
   rw [hft]
   refine bT [some 0,some 3] rfl rfl ?_ rfl ?_ rfl ?_
   repeat' (first |exact trivial |rfl |exact .inl rfl |exact .inr rfl |exact id |exact(fun h=>Bool.noConfusion h)|refine And.intro ?_ ?_)
   ·show bK E F++ [mZ E j]=_
    simp [bK]
   ·show(bK E F).length+1=_
    rw [aK,zF];rfl
  rw [b2,cond_false] at hft
  refine Wk ?_
  rw [dG (by omega)]
  refine⟨k+1,by show k+1≤_;omega,?_,by show l.length- (k+1)<l.length-k;omega⟩
  dsimp only
  rw [hft]
  exact Vw [some 0,some 1]
 have b1:k=l.length:=by simp at b1;omega
 subst b1
 rw [zR]
 have hF:∀j∈l.filter (neB i),j∈l∧j≠i:=fun j hj=>by rw [List.mem_filter] at hj;exact⟨hj.1,aNP.1 hj.2⟩
 have hF2:∀j,j∈l→j≠i→j∈l.filter (neB i):=fun j h1 h2=>List.mem_filter.2 ⟨h1,aNP.2 h2⟩
 have hrs:bK (cO E i (v,0)) (l.filter (neB i))=bK E (l.filter (neB i)):=aQK fun j hj=>(hF j hj).2
 have hFl:(l.filter (neB i)).length≤16:=Nat.le_trans (zO _ _) hlen
 generalize l.filter (neB i)=F at hF hF2 hrs hFl
 refine Wk ?_
 refine⟨List Nat,fun L=>((∀j∈L,j<16)∧∀j,j<16→(j∈L↔(cO E i (v,0) j).1≠0))∧L.length≤100000,fun L=>⟨[(6,⟨[],true,.ptr 0 0 0⟩),(9,⟨[],true,.lst 3 false (bK (cO E i (v,0)) L)⟩)],[(0,.box [.int .i64 0,bP,.int .i64 0,.int .i64 0])],1⟩,?_,fun L hL=>?_⟩
 ·refine Wk ?_
  refine aC (fun b3=>?_) (fun b3=>?_)<;> try simp only [zD,zC,zG,zE,zK] at b3
  ·have b3:v≠0:=by simpa using b3
   refine Wk ?_
   refine aB (aK E F).symm (bA (by rw [aK];show((F.length+1:Nat):Int)≤_;omega) (by rw [aK];show(F.length+1)*24≤_;omega) ?_)
   refine Wk ?_
   refine⟨F++ [i],⟨⟨fun j hj=>?_,fun j hj=>?_⟩,by rw [zF,zI];omega⟩,?_⟩
   ·rcases List.mem_append.1 hj with hj |hj
    ·exact hmem j (hF j hj).1
    ·obtain rfl:=List.mem_singleton.1 hj;exact hi
   ·by_cases e:j=i
    ·subst e;rw [dS];exact⟨fun _=>b3,fun _=>List.mem_append_right _ (List.mem_singleton.2 rfl)⟩
    ·rw [cS e,←hmem2 j hj,List.mem_append,List.mem_singleton]
     exact⟨fun h=>(hF j (h.resolve_right e)).1,fun h=>.inl (hF2 j h e)⟩
   have hr:bK E F++ [[V.int .i64 (i:Int),V.int .i64 v,V.int .i64 0]]=bK (cO E i (v,0)) (F++ [i]):=by
    rw [←hrs];simp [bK,mZ,dS]
   refine bT [some 0] rfl rfl ?_ rfl ?_ rfl ?_
   repeat' (first |exact trivial |rfl |exact .inl rfl |exact .inr rfl |exact id |exact(fun h=>Bool.noConfusion h)|refine And.intro ?_ ?_)
   ·show 0+((bK E F).length+1)≤(bK E F++ [[V.int .i64 (i:Int),V.int .i64 v,V.int .i64 0]]).length
    rw [zF,zI];omega
   ·exact bW hr (zF ..)
  have b3:v=0:=by simpa using b3
  refine Wk ?_
  refine⟨F,⟨⟨fun j hj=>hmem j (hF j hj).1,fun j hj=>?_⟩,by omega⟩,?_⟩
  ·by_cases e:j=i
   ·subst e;rw [dS];exact⟨fun h=>absurd rfl (hF j h).2,fun h=>absurd b3 h⟩
   ·rw [cS e,←hmem2 j hj]
    exact⟨fun h=>(hF j h).1,fun h=>hF2 j h e⟩
  dsimp only
  rw [hrs]
  refine bT [some 0] rfl rfl ?_ rfl ?_ rfl ?_
  repeat' (first |exact trivial |rfl |exact .inl rfl |exact .inr rfl |exact id |exact(fun h=>Bool.noConfusion h)|refine And.intro ?_ ?_)
  ·rw [aK];omega
  ·exact bW rfl (aK _ _)
 refine cC (k219 L hL.1.1 hL.1.2 hL.2) ?_
 try subst hk
 exact Lf
end Go.Proofs.YtmhapcbjjpadnaaGreat
set_option maxRecDepth 40000
namespace Go.Proofs.YtmhapcbjjpadnaaGreat
open Go Go.Sk Go.RowKit
theorem bGZ(m:Nat)(hm:m=1∨m=2∨m=4):aN Tryz.prog 361 [] [.int .i64 (m:Int)] (.bool true) []:=by
 rcases hm with rfl |rfl |rfl
 ·exact run_eq E1 40 (by kernel_rfl)
 ·exact run_eq E1 40 (by kernel_rfl)
 ·exact run_eq E1 40 (by kernel_rfl)
def jE(on:Bool)(x m:Nat):Nat:=bif on then x ||| m else x &&& (7 ^^^ m)
theorem aRJ {on:Bool} {x m:Nat} (hx:x<8)(hm:m<8):jE on x m<8:=by
 have key:∀on:Bool,∀a b:Fin 8,jE on a.val b.val<8:=by decide
 exact key on ⟨x,hx⟩ ⟨m,hm⟩
theorem fC {x y:Nat} (hx:x<8)(hy:y<8):eX .andNot .i64 (x:Int) (y:Int)=((jE false x y:Nat):Int):=by
 have key:∀a:Fin 8,∀b:Fin 8,eX .andNot .i64 (a.val:Int) (b.val:Int)=((jE false a.val b.val:Nat):Int):=by decide
 exact key ⟨x,hx⟩ ⟨y,hy⟩
def mW(E:cK)(i:Nat)(on:Bool)(m:Nat):cK:=cO E i ((E i).1,jE on (E i).2 m)
theorem bG.mrk {E:cK} (hE:bG E) {i m:Nat} {on:Bool} (hm8:m<8)(hv:0< (E i).1):bG (mW E i on m):=by
 have h1:=aRJ (on:=on) (hE.small i) hm8
 exact hE.set (p:=((E i).1,jE on (E i).2 m)) h1 (fun h=>absurd h (by show ¬(E i).1≤0;omega))
theorem aX9 {i:Nat} {l:List Nat} (h:i∈l):∃n:Nat,kH (i:Int) l 0=n∧n<l.length∧l.getD n 0=i:=by
 obtain⟨h1,h2⟩:=aDV (i:=(i:Int)) (l:=l) (k:=0)
 have h0:0≤kH (i:Int) l 0:=Int.not_lt.1 fun hn=>h2 hn i h rfl
 obtain⟨-,a2,a3⟩:=h1 h0
 rw [Nat.sub_zero] at a3
 exact⟨(kH (i:Int) l 0).toNat,by omega,by omega,by omega⟩
theorem aQL {E:cK} {i:Nat} {p:Int×Nat} {l:List Nat} {n:Nat} (hn:n<l.length)(hi:l.getD n 0=i)(hu:∀k,k<l.length→l.getD k 0=i→k=n):
 (bK E l).set n (mZ (cO E i p) i)=bK (cO E i p) l:=by
 apply List.ext_getElem?
 intro k
 simp only [bK,List.getElem?_set,List.getElem?_map,List.length_map]
 have hgd:∀x,l[k]? =some x→k<l.length∧l.getD k 0=x:=fun x hx=>⟨(List.getElem?_eq_some_iff.1 hx).1,by simp [zA,hx]⟩
 by_cases e:n=k
 ·subst e
  rw [if_pos rfl,if_pos hn]
  have :l[n]? =some i:=by
   rw [zL hn,←hi];simp [zA,hn]
  rw [this];rfl
 ·rw [if_neg e]
  cases hk:l[k]? with
  |none=>rfl
  |some x=>
   obtain⟨a1,a2⟩:=hgd x hk
   have hne:x≠i:=fun h=>e (hu k a1 (by rw [a2];exact h)).symm
   show some (mZ E x)=some (mZ (cO E i p) x)
   unfold mZ
   rw [cS hne]
theorem aD3(E:cK)(a:Nat):∀n (k k':Nat),k< (bN E a n).length→k'< (bN E a n).length→(bN E a n).getD k 0=(bN E a n).getD k' 0→k=k'
 |0,k,_,h,_,_=>absurd h (zM k)
 |n+1,k,k',h,h',e=>by
  have hl:∀j,j< (bN E a n).length→(bN E a n).getD j 0<a+n:=fun j hj=>by
   have :(bN E a n).getD j 0∈bN E a n:=by simp only [zA,hj,zL,Option.getD_some];exact List.getElem_mem hj
   exact(iX.1 this).2.1
  rw [bN] at h h' e
  cases hv:((E (a+n)).1==0) with
  |true=>simp only [hv,cond_true,zN] at h h' e;exact aD3 E a n k k' h h' e
  |false=>
   simp only [hv,cond_false,zF,zI] at h h' e
   have g1:∀j,j< (bN E a n).length→(bN E a n++ [a+n]).getD j 0=(bN E a n).getD j 0:=fun j hj=>by
    simp [zA,List.getElem?_append_left hj]
   have g2:(bN E a n++ [a+n]).getD (bN E a n).length 0=a+n:=by simp [zA]
   by_cases c:k< (bN E a n).length <;> by_cases c':k'< (bN E a n).length
   ·rw [g1 k c,g1 k' c'] at e;exact aD3 E a n k k' c c' e
   ·obtain rfl:k'=(bN E a n).length:=by omega
    rw [g1 k c,g2] at e;have :=hl k c;omega
   ·obtain rfl:k=(bN E a n).length:=by omega
    rw [g1 k' c',g2] at e;have :=hl k' c';omega
   ·omega
set_option maxRecDepth 20000 in
theorem bAA {E:cK} (hE:bG E)(hs:sQ E)(i:Nat)(hi:i<16)(m:Nat)(hm:m=1∨m=2∨m=4)(on:Bool)(hv:0< (E i).1):
 aN Tryz.prog 350 [] [.agg (can E),.int .i64 (i:Int),.int .i64 (m:Int),.bool on] (.tup [.agg (can (mW E i on m)),.int .i64 0]) []:=by
 have hm8:m<8:=by omega
 have k361:=bGZ m hm
 have k218:=aTJ hE hs
 have hin:i∈bN E 0 16:=iX.2 ⟨by omega,by omega,by omega⟩
 have k216:=bCG hE hs (zQ hin)
 have hE':=hE.mrk (i:=i) (on:=on) hm8 hv
 have hlen:=jY E 0 16
 have k219:=aZM hE' (bN E 0 16) false (fun j hj=>by have :=iX.1 hj;omega) (fun j hj=>by
  unfold mW
  by_cases e:j=i
  ·subst e;rw [dS];exact⟨fun _=>by show(E j).1≠0;omega,fun _=>hin⟩
  ·rw [cS e,iX];exact⟨fun h=>h.2.2,fun h=>⟨by omega,by omega,h⟩⟩) (by omega)
 have k217:=aZL E (bN E 0 16) (i:Int) (by omega)
 rw [rY (zQ hin)] at k217
 obtain⟨n,hpn,hn,hgn⟩:=aX9 hin
 have hup:=aQL (E:=E) (p:=((E i).1,jE on (E i).2 m)) hn hgn (fun k hk e=>aD3 E 0 16 k n hk hn (by rw [e,hgn]))
 have hg:=jN E (bN E 0 16) n hn
 rw [hgn] at hg
 rw [hpn] at k217
 have hx:=hE.small i
 obtain⟨k0,k1,k2,k3,e⟩:=bI hE
 obtain⟨q0,q1,q2,q3,e'⟩:=bI hE'
 rw [e] at k216
 rw [e] at k218⊢
 rw [e'] at k219⊢
 generalize bN E 0 16=l at hlen k216 k217 k219 hn hup hg
 rw [←bW (X:=bK E l) rfl (aK E l)] at k217
 refine aF (ob0:= []) [.s 62] Tryz.func350 rfl rfl rfl rfl ?_
 refine vJ k218 k361 ?_
 rw [show decide ((i:Int)<0)=false from decide_eq_false (by omega),show decide ((255:Int)< (i:Int))=false from decide_eq_false (by omega)]
 refine vJ k218 k361 ?_
 refine .inr ⟨fun _=>⟨[],_,_,_,k216,trivial,rfl,rfl,rfl,?_⟩,(by intro h;cases h)⟩
 refine Wk ?_
 refine .inl ⟨_,fun _=>⟨?_,k217⟩,.inr rfl,?_⟩
 ·intro v hv
  rcases List.mem_cons.1 hv with rfl |hv
  ·show 0+l.length≤(bK E l).length
   rw [aK];omega
  ·obtain rfl:=List.mem_singleton.1 hv
   exact trivial
 refine Wk ?_
 rw [show decide (0≤(n:Int)∧(n:Int)< (l.length:Int))=true from decide_eq_true ⟨by omega,by omega⟩]
 refine Wk ?_
 rw [show 0+(n:Int).toNat=n by omega,show decide (n< (bK E l).length)=true from decide_eq_true (by rw [aK];exact hn),hg]
 refine Wk ?_
 rw [show decide ((E i).1<0)=false from decide_eq_false (by omega),show decide ((n:Int)<0)=false from decide_eq_false (by omega)]
 refine Wk ?_
 cases on with
 |true=>
  refine Wk ?_
  rw [show decide (0≤(n:Int)∧(n:Int)< (l.length:Int))=true from decide_eq_true ⟨by omega,by omega⟩]
  refine Wk ?_
  rw [show 0+(n:Int).toNat=n by omega,show decide (n< (bK E l).length)=true from decide_eq_true (by rw [aK];exact hn),hg]
  refine Wk ?_
  rw [eM hx hm8]
  refine Wk ?_
  rw [show decide (0≤(n:Int)∧(n:Int)< (l.length:Int))=true from decide_eq_true ⟨by omega,by omega⟩]
  refine Wk ?_
  rw [show 0+(n:Int).toNat=n by omega,show decide (n< (bK E l).length)=true from decide_eq_true (by rw [aK];exact hn),hg]
  refine Wk ?_
  refine⟨Unit,fun _=>True,fun _=>⟨[(8,⟨[],true,.ptr 0 0 0⟩),(62,⟨[],true,.lst 3 false (bK (mW E i true m) l)⟩)],[(0,.box [.int .i64 0,bP,.int .i64 0,.int .i64 0])],1⟩,?_,fun _ _=>?_⟩
  ·refine Wk ?_
   refine⟨(),trivial,?_⟩
   have hup2:(bK E l).set n [.int .i64 (i:Int),.int .i64 (E i).1,.int .i64 ((jE true (E i).2 m:Nat):Int)]=bK (mW E i true m) l:=by
    rw [mW,←hup,mZ,dS]
   refine bT [some 1] rfl rfl ?_ rfl ?_ rfl ?_
   repeat' (first |exact trivial |rfl |exact .inl rfl |exact .inr rfl |exact id |exact(fun h=>Bool.noConfusion h)|refine And.intro ?_ ?_)
   ·show 0+l.length≤((bK E l).set n [.int .i64 (i:Int),.int .i64 (E i).1,.int .i64 ((jE true (E i).2 m:Nat):Int)]).length
    rw [zJ,aK];omega
   ·exact bW hup2 (by rw [zJ,aK])
  refine cC k219 ?_
  try subst hk
  exact Lf
 |false=>
  refine Wk ?_
  rw [show decide (0≤(n:Int)∧(n:Int)< (l.length:Int))=true from decide_eq_true ⟨by omega,by omega⟩]
  refine Wk ?_
  rw [show 0+(n:Int).toNat=n by omega,show decide (n< (bK E l).length)=true from decide_eq_true (by rw [aK];exact hn),hg]
  refine Wk ?_
  rw [fC hx hm8]
  refine Wk ?_
  rw [show decide (0≤(n:Int)∧(n:Int)< (l.length:Int))=true from decide_eq_true ⟨by omega,by omega⟩]
  refine Wk ?_
  rw [show 0+(n:Int).toNat=n by omega,show decide (n< (bK E l).length)=true from decide_eq_true (by rw [aK];exact hn),hg]
  refine Wk ?_
  refine⟨Unit,fun _=>True,fun _=>⟨[(8,⟨[],true,.ptr 0 0 0⟩),(62,⟨[],true,.lst 3 false (bK (mW E i false m) l)⟩)],[(0,.box [.int .i64 0,bP,.int .i64 0,.int .i64 0])],1⟩,?_,fun _ _=>?_⟩
  ·refine Wk ?_
   refine⟨(),trivial,?_⟩
   have hup2:(bK E l).set n [.int .i64 (i:Int),.int .i64 (E i).1,.int .i64 ((jE false (E i).2 m:Nat):Int)]=bK (mW E i false m) l:=by
    rw [mW,←hup,mZ,dS]
   refine bT [some 1] rfl rfl ?_ rfl ?_ rfl ?_
   repeat' (first |exact trivial |rfl |exact .inl rfl |exact .inr rfl |exact id |exact(fun h=>Bool.noConfusion h)|refine And.intro ?_ ?_)
   ·show 0+l.length≤((bK E l).set n [.int .i64 (i:Int),.int .i64 (E i).1,.int .i64 ((jE false (E i).2 m:Nat):Int)]).length
    rw [zJ,aK];omega
   ·exact bW hup2 (by rw [zJ,aK])
  refine cC k219 ?_
  try subst hk
  exact Lf
theorem aTU {E:cK} (hE:bG E)(hs:sQ E)(i:Nat)(hi:i<16)(m:Nat)(hm:m=1∨m=2∨m=4)(hv:0< (E i).1):
 aN Tryz.prog 319 [] [.agg (can E),.int .i64 (i:Int),.int .i64 (m:Int)] (.tup [.agg (can (mW E i true m)),.int .i64 0]) []:=by
 have hm8:m<8:=by omega
 have hE':=hE.mrk (i:=i) (on:=true) hm8 hv
 have k350:=bAA hE hs i hi m hm true hv
 obtain⟨k0,k1,k2,k3,e⟩:=bI hE
 obtain⟨q0,q1,q2,q3,e'⟩:=bI hE'
 rw [e,e'] at k350
 rw [e,e']
 refine aF (ob0:= []) [] Tryz.func319 rfl rfl rfl rfl ?_
 refine cC k350 ?_
 try subst hk
 exact Lf
theorem aTV {E:cK} (hE:bG E)(hs:sQ E)(i:Nat)(hi:i<16)(m:Nat)(hm:m=1∨m=2∨m=4)(hv:0< (E i).1):
 aN Tryz.prog 320 [] [.agg (can E),.int .i64 (i:Int),.int .i64 (m:Int)] (.tup [.agg (can (mW E i false m)),.int .i64 0]) []:=by
 have hm8:m<8:=by omega
 have hE':=hE.mrk (i:=i) (on:=false) hm8 hv
 have k350:=bAA hE hs i hi m hm false hv
 obtain⟨k0,k1,k2,k3,e⟩:=bI hE
 obtain⟨q0,q1,q2,q3,e'⟩:=bI hE'
 rw [e,e'] at k350
 rw [e,e']
 refine aF (ob0:= []) [] Tryz.func320 rfl rfl rfl rfl ?_
 refine cC k350 ?_
 try subst hk
 exact Lf
end Go.Proofs.YtmhapcbjjpadnaaGreat
set_option maxRecDepth 40000
namespace Go.Proofs.YtmhapcbjjpadnaaGreat
open Go Go.Sk Go.RowKit
set_option maxRecDepth 20000 in
theorem bFO {E:cK} (hE:bG E):∀(h a:Nat),aN Tryz.prog 199 [] [.agg (sub E h a),.agg (sub E h a)] (.bool true) []:=by
 intro h
 induction h with
 |zero=>
  intro a
  rw [sub]
  generalize(E a).1=v
  generalize((E a).2:Int)=m
  refine aF (ob0:= []) [] Tryz.func199 rfl rfl rfl rfl ?_
  refine Wk ?_
  rw [show(v != v)=false from bne_self_eq_false v,show(m != m)=false from bne_self_eq_false m]
  refine Wk ?_
  refine⟨Unit,fun _=>True,fun _=>⟨[(2,⟨[],true,.ptr 0 0 0⟩),(3,⟨[],true,.ptr 1 0 0⟩),(5,⟨[],true,.int .i64 0⟩)],[(0,.box [bP,.int .i64 v,.int .i64 m]),(1,.box [bP,.int .i64 v,.int .i64 m])],2⟩,fun _=>0,⟨(),trivial,?_⟩,fun _ _=>?_⟩
  ·exact Vw [some 0,some 1]
  refine Wk ?_
  try subst hk
  exact Lf
 |succ h ih=>
  intro a
  cases hn:fF E a (4^(h+1)) with
  |true=>
   rw [dP hE hn]
   exact aKF E1 40 (by kernel_rfl)
  |false=>
   rw [gH hn]
   generalize((kL E a (4^(h+1)):Nat):Int)=m
   refine aF (ob0:= []) [] Tryz.func199 rfl rfl rfl rfl ?_
   refine Wk ?_
   rw [show(m != m)=false from bne_self_eq_false m]
   refine Wk ?_
   refine⟨Nat,fun i=>i≤4,fun i=>⟨[(2,⟨[],true,.ptr 0 0 0⟩),(3,⟨[],true,.ptr 1 0 0⟩),(5,⟨[],true,.int .i64 (i:Int)⟩)],[(0,.box [.lst 3 false (kids E h a),.int .i64 0,.int .i64 m]),(1,.box [.lst 3 false (kids E h a),.int .i64 0,.int .i64 m])],2⟩,fun i=>4-i,⟨0,zS _,?_⟩,fun i hI=>?_⟩
   ·exact Vw [some 0,some 1]
   dsimp only at hI⊢
   refine Wk ?_
   rw [show(kids E h a).length=4 from rfl]
   refine aC (fun b1=>?_) (fun b1=>?_)<;> try simp only [zD,zC,zG,zE,zK] at b1
   ·have b1:i<4:=by simp at b1;omega
    obtain⟨k0,k1,k2,k3,e⟩:=gZ hE h (a+i*4^h)
    have ih':=ih (a+i*4^h)
    have hg:=eD E h a i b1
    rw [e] at ih' hg
    refine Wk ?_
    first |refine aB (⟨rfl,by omega,by show(i:Int)<4;omega⟩) ?_ |refine aH (fun _=>⟨rfl,by omega,by show(i:Int)<4;omega⟩) ?_ |refine⟨fun _=>⟨rfl,by omega,by show(i:Int)<4;omega⟩,?_⟩
    rw [zH,hg]
    refine Wk ?_
    first |refine aB (⟨rfl,by omega,by show(i:Int)<4;omega⟩) ?_ |refine aH (fun _=>⟨rfl,by omega,by show(i:Int)<4;omega⟩) ?_ |refine⟨fun _=>⟨rfl,by omega,by show(i:Int)<4;omega⟩,?_⟩
    rw [zH,hg]
    refine cC ih' ?_
    rw [dG (by omega)]
    refine⟨i+1,by show i+1≤4;omega,?_,by show 4- (i+1)<4-i;omega⟩
    exact Vw [some 0,some 1]
   have b1:i=4:=by simp at b1;omega
   refine Wk ?_
   try subst hk
   exact Lf
theorem bJV {E:cK} (hE:bG E):aN Tryz.prog 93 [] [.agg (can E),.agg (can E)] (.bool true) []:=by
 have k199:=bFO hE (hgt E) 0
 unfold can
 obtain⟨k0,k1,k2,k3,e⟩:=gZ hE (hgt E) 0
 rw [e] at k199⊢
 refine aF (ob0:= []) [] Tryz.func93 rfl rfl rfl rfl ?_
 refine cC k199 ?_
 rw [beq_self_eq_true]
 try subst hk
 exact Lf
end Go.Proofs.YtmhapcbjjpadnaaGreat
