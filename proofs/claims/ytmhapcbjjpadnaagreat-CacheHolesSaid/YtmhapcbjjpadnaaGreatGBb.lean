/- Caches. -/
import Derived.Test.YtmhapcbjjpadnaaGreatGAb
set_option linter.all false
set_option maxRecDepth 40000
open Bool renaming cond_false_right→zC,cond_true_left→zD,not_eq_false'→zE,not_eq_true'→zG,not_not→zK
open Int renaming toNat_natCast→zH
open List renaming getD_eq_getElem?_getD→zA,length_append→zF,length_singleton→zI,length_set→zJ,getElem?_eq_getElem→zL,append_nil→zN,length_filter_le→zO,ne_nil_of_mem→zQ,take_length→zS
open Nat renaming not_lt_zero→zM,pow_le_pow_right→zP,zero_le→zT
namespace Go.Proofs.YtmhapcbjjpadnaaGreat
open Go Go.Sk Go.RowKit
def rK(E:cM):Prop:=∀j,16<=j->(E j).1=0
def mxE(E:cM):Nat->Nat
 |0=>0
 |n+1=>bif (E n).1==0 then mxE E n else n
theorem kW(E:cM):∀n,(∀j,j<n->(E j).1≠0->j<=mxE E n)/\(mxE E n=0\/(mxE E n<n/\(E (mxE E n)).1≠0))
 |0=>⟨λj h=>absurd h (zM j),.inl rfl⟩
 |n+1=>by
  obtain⟨h1,h2⟩:=kW E n
  rw [mxE]
  cases hv:((E n).1==0) with
  |true=>
   have hv:(E n).1=0:=by simpa using hv
   simp only [cond_true]
   refine⟨λj hj he=>?_,h2.elim .inl λh=>.inr ⟨by omega,h.2⟩⟩
   by_cases e:j=n
   ·subst e;exact absurd hv he
   ·exact h1 j (by omega) he
  |false=>
   have hv:(E n).1≠0:=by simpa using hv
   simp only [cond_false]
   exact⟨λj hj _=>by omega,.inr ⟨by omega,hv⟩⟩
def aEC(l:List Nat):Nat:=l.foldl max 0
theorem aRI(l:List Nat)(x:Nat):aEC (l++ [x])=max (aEC l) x:=by simp [aEC,List.foldl_append]
theorem aGE(l:List Nat):(∀j∈l,j<=aEC l)/\(aEC l=0\/aEC l∈l):=by
 have key:∀(l:List Nat) (m:Nat),(m<=l.foldl max m/\∀j∈l,j<=l.foldl max m)/\(l.foldl max m=m\/l.foldl max m∈l):=by
  intro l
  induction l with
  |nil=>exact λm=>⟨⟨Nat.le_refl _,by simp⟩,.inl rfl⟩
  |cons x r ih=>
   intro m
   obtain⟨⟨h1,h2⟩,h3⟩:=ih (max m x)
   rw [List.foldl_cons]
   refine⟨⟨by omega,λj hj=>?_⟩,?_⟩
   ·rcases List.mem_cons.1 hj with rfl |hj
    ·omega
    ·exact h2 j hj
   ·rcases h3 with h3 |h3
    ·rw [h3]
     by_cases e:m<=x
     ·right;rw [Nat.max_eq_right e];exact List.mem_cons_self
     ·left;exact Nat.max_eq_left (by omega)
    ·exact .inr (List.mem_cons_of_mem _ h3)
 exact⟨(key l 0).1.2,(key l 0).2⟩
theorem aYO {E:cM} {l:List Nat} (h1:∀j∈l,j<16)(h2:∀j,j<16->(j∈l↔(E j).1≠0)):aEC l=mxE E 16:=by
 obtain⟨a1,a2⟩:=aGE l
 obtain⟨b1,b2⟩:=kW E 16
 apply Nat.le_antisymm
 ·rcases a2 with a2 |a2
  ·omega
  ·exact b1 _ (h1 _ a2) ((h2 _ (h1 _ a2)).1 a2)
 ·rcases b2 with b2 |b2
  ·omega
  ·exact a1 _ ((h2 _ b2.1).2 b2.2)
def hgt(E:cM):Nat:=htE (mxE E 16)
def can(E:cM):List V:=.int .i64 (hgt E:Int)::sub E (hgt E) 0
theorem lE(i:Nat):htE i<=2:=by unfold htE;cases Nat.beq i 0 <;> cases Nat.blt i 4 <;> decide
theorem aHT {i:Nat} (h:i<16):i<4^htE i:=by
 have key:∀i:Fin 16,i.val<4^htE i.val:=by decide
 exact key ⟨i,h⟩
theorem aAZ(E:cM):mxE E 16<16:=by rcases(kW E 16).2 with h |h <;> omega
theorem qI {E:cM} (hs:rK E):∀j,4^hgt E<=j->(E j).1=0:=λj hj=>by
 by_cases h0:(E j).1=0
 ·exact h0
 ·by_cases h1:j<16
  ·have :=(kW E 16).1 j h1 h0
   have :=aHT (aAZ E)
   unfold hgt at hj;omega
  ·exact hs j (by omega)
theorem aG6 {E:cM} {m:Nat} (hm:(E m).1≠0):∀n,m<n->(∀j,m<j->j<n->(E j).1=0)->∃r,bQ E 0 n=r++ [m]
 |0,h,_=>absurd h (zM m)
 |n+1,h,hz=>by
  rw [bQ,Nat.zero_add]
  by_cases e:n=m
  ·subst e
   exact⟨bQ E 0 n,by rw [show((E n).1==0)=false from beq_eq_false_iff_ne.2 hm];rfl⟩
  ·rw [show((E n).1==0)=true from beq_iff_eq.2 (hz n (by omega) (by omega)),cond_true,zN]
   exact aG6 hm n (by omega) λj h1 h2=>hz j h1 (by omega)
theorem aD0 {E:cM} (hs:rK E):aWB (bQ E 0 (4^hgt E)) (hgt E):=by
 obtain⟨b1,b2⟩:=kW E 16
 have hp:=aHT (aAZ E)
 by_cases h0:(E (mxE E 16)).1=0
 ·have hm:mxE E 16=0:=by rcases b2 with b2 |b2;exact b2;exact absurd h0 b2.2
  have hh:hgt E=0:=by unfold hgt;rw [hm];rfl
  rw [hm] at h0
  have h1n:fQ E 0 (4^0)=true:=iA.2 λi hi=>by
   obtain rfl:i=0:=by have :(4:Nat)^0=1:=rfl;omega
   exact h0
  rw [hh,tC h1n]
  exact rfl
 ·obtain⟨r,hr⟩:=aG6 h0 (4^hgt E) hp λj h1 h2=>by
   by_cases h3:(E j).1=0
   ·exact h3
   ·by_cases h4:j<16
    ·have :=b1 j h4 h3;omega
    ·exact hs j (by omega)
  rw [hr]
  have hl:aE8 (r++ [mxE E 16])=mxE E 16:=by simp [aE8]
  cases r with
  |nil=>exact congrArg htE hl
  |cons x r=>exact congrArg htE hl
theorem bBG {E:cM} (hE:bH E)(l:List Nat)(t:Bool)(h1:∀j∈l,j<16)(h2:∀j,j<16->(j∈l↔(E j).1≠0))(hl:l.length<=100000):aM Tryz.prog 219 [] [.lst 3 t (bO E l)] (.agg (can E)) []:=by
 have k295:aM Tryz.prog 295 [] [.int .i64 (mxE E 16:Nat)] (.int .i64 (hgt E:Int)) []:=bBY (mxE E 16) (aAZ E)
 have hh:=lE (mxE E 16)
 have hp:4^hgt E<=16:=zP (n:=4) (by decide) hh
 have k296:=bIL hE (hgt E) 0 l t (by unfold hgt;omega) (by omega) (λj _ hj=>h2 j (by omega)) (λj hj=>by have :=h1 j hj;omega) hl
 have hmx:=aYO h1 h2
 have hmt:∀k,aEC (l.take k)<16:=λk=>by
  rcases(aGE (l.take k)).2 with h |h
  ·omega
  ·exact h1 _ (List.mem_of_mem_take h)
 unfold can
 obtain⟨k0,k1,k2,k3,e⟩:=iG hE (hgt E) 0
 rw [e] at k296⊢
 refine aF (ob0:= []) [] Tryz.func219 rfl rfl rfl rfl ?_
 refine Wk ?_
 refine⟨Nat,λk=>k<=l.length,λk=>⟨[(0,⟨[],true,.lst 3 t (bO E l)⟩),(2,⟨[],true,.ptr 0 0 0⟩),(3,⟨[],true,.int .i64 (aEC (l.take k):Nat)⟩),(4,⟨[],true,.int .i64 (k:Int)⟩)],[(0,.box [.int .i64 0,bR,.int .i64 0,.int .i64 0])],1⟩,λk=>l.length-k,⟨0,zT _,?_⟩,λk hI=>?_⟩
 ·exact Vw [some 0]
 dsimp only at hI⊢
 refine Wk ?_
 rw [aL]
 refine aC (λb1=>?_) (λb1=>?_)<;> try simp only [zD,zC,zG,zE,zK] at b1
 ·have b1:k<l.length:=by simp at b1;omega
  have hs:=aRI (l.take k) (l.getD k 0)
  rw [<-aCD 0 b1] at hs
  refine Wk ?_
  first |refine aB (⟨rfl,by omega,by rw [aL];omega⟩) ?_ |refine aH (λ_=>⟨rfl,by omega,by rw [aL];omega⟩) ?_ |refine⟨λ_=>⟨rfl,by omega,by rw [aL];omega⟩,?_⟩
  rw [zH,kC E l k b1]
  refine Wk ?_
  rw [show max ((aEC (l.take k):Nat):Int) ((l.getD k 0:Nat):Int)=((max (aEC (l.take k)) (l.getD k 0):Nat):Int) by omega,<-hs,cV (by omega)]
  refine⟨k+1,by show k+1<=_;omega,?_,by show l.length- (k+1)<l.length-k;omega⟩
  exact Vw [some 0]
 have b1:k=l.length:=by simp at b1;omega
 subst b1
 rw [zS,hmx]
 refine Wk2 k295 k296 ?_
 try subst hk
 exact Lf
theorem bB {E:cM} (hE:bH E):∃k n xs v,can E=[.int .i64 (hgt E:Int),.lst k n xs,.int .i64 v,.int .i64 (lI E 0 (4^hgt E):Nat)]:=by
 obtain⟨k0,k1,k2,k3,e⟩:=iG hE (hgt E) 0
 exact⟨k0,k1,k2,k3,by rw [can,e]⟩
theorem aV0 {E:cM} (hE:bH E)(hs:rK E):aM Tryz.prog 218 [] [.agg (can E)] (.bool true) []:=aUZ hE _ (lE _) (aD0 hs)
theorem aOV {E:cM} {m:Nat} (hz:∀j,m<=j->(E j).1=0):∀ {n},m<=n->bQ E 0 n=bQ E 0 m
 |0,h=>by obtain rfl:m=0:=by omega
          rfl
 |n+1,h=>by
  by_cases e:m=n+1
  ·subst e;rfl
  ·rw [bQ,Nat.zero_add,show((E n).1==0)=true from beq_iff_eq.2 (hz n (by omega)),cond_true,zN,aOV hz (by omega)]
theorem aHU {E:cM} (hs:rK E):bQ E 0 (4^hgt E)=bQ E 0 16:=(aOV (qI hs) (zP (n:=4) (by decide) (lE _))).symm
theorem bEJ {E:cM} (hE:bH E)(hs:rK E):aM Tryz.prog 216 [] [.agg (can E)] (aRF E (bQ E 0 16)) []:=by
 have :=bBE hE (hgt E) (lE _) (aD0 hs)
 rwa [aHU hs] at this
theorem bEL {E:cM} (hE:bH E)(hs:rK E)(hn:bQ E 0 16≠ []):aM Tryz.prog 216 [] [.agg (can E)] (.sl 0 0 (bQ E 0 16).length) [.row 3 (bO E (bQ E 0 16))]:=by
 have :=bEK hE (hgt E) (lE _) (aD0 hs) (by
  cases h:fQ E 0 (4^hgt E) with
  |false=>rfl
  |true=>exact absurd (tC h) (by rw [aHU hs];exact hn))
 rwa [aHU hs] at this
theorem aUG {E:cM} (hE:bH E)(hs:rK E)(i:Int):aM Tryz.prog 117 [] [.agg (can E),.int .i64 i] (.int .i64 (uW E i)) []:=bHB hE _ (lE _) (aD0 hs) (qI hs) i
end Go.Proofs.YtmhapcbjjpadnaaGreat
namespace Go.Proofs.YtmhapcbjjpadnaaGreat
open Go Go.Sk Go.RowKit
def cI(E:cM)(i:Nat)(p:Int×Nat):cM:=λj=>bif Nat.beq j i then p else E j
theorem dH(E:cM)(i:Nat)(p:Int×Nat):cI E i p i=p:=by simp [cI]
theorem cT {E:cM} {i j:Nat} {p:Int×Nat} (h:j≠i):cI E i p j=E j:=by
 unfold cI;rw [show Nat.beq j i=false from Bool.eq_false_iff.2 λe=>h (Nat.eq_of_beq_eq_true e)];rfl
theorem bH.set {E:cM} (h:bH E) {i:Nat} {p:Int×Nat} (h1:p.2<8)(h2:p.1<=0->p.2=0):bH (cI E i p):=by
 first |refine aC (λj=>?_) (λj=>?_)<;> by_cases e:j=i |refine⟨λj=>?_,λj=>?_⟩<;> by_cases e:j=i
 ·subst e;rw [dH];exact h1
 ·rw [cT e];exact h.small j
 ·subst e;rw [dH];exact h2
 ·rw [cT e];exact h.none j
theorem rK.set {E:cM} (h:rK E) {i:Nat} (hi:i<16)(p:Int×Nat):rK (cI E i p):=λj hj=>by rw [cT (by omega)];exact h j hj
theorem aRG(E:cM)(l:List Nat):∃k t,aRF E l=.lst k t (bO E l)/\(0<l.length->k=3):=by
 cases l with
 |nil=>exact⟨0,true,rfl,λh=>absurd h (by decide)⟩
 |cons x r=>exact⟨3,false,rfl,λ_=>rfl⟩
theorem aS5 {E:cM} {i:Nat} {p:Int×Nat} {l:List Nat} (h:∀j∈l,j≠i):bO (cI E i p) l=bO E l:=by
 unfold bO
 exact List.map_congr_left λj hj=>by unfold oL;rw [cT (h j hj)]
def neB(i j:Nat):Bool:=(j:Int) != (i:Int)
theorem aP6 {i j:Nat} :neB i j=true↔j≠i:=by
 unfold neB;rw [bne_iff_ne];omega
theorem aUH {E:cM} (hE:bH E)(hs:rK E)(i:Nat)(hi:i<16)(v:Int):aM Tryz.prog 118 [] [.agg (can E),.int .i64 (i:Int),.int .i64 v] (.tup [.agg (can (cI E i (v,0))),.int .i64 0]) []:=by
 have k218:=aV0 hE hs
 have k216:=bEJ hE hs
 have hE':bH (cI E i (v,0)):=hE.set (Nat.zero_lt_succ _) (λ_=>rfl)
 have hlen:=kU E 0 16
 have hmem:∀j∈bQ E 0 16,j<16:=λj hj=>by have :=jK.1 hj;omega
 have hmem2:∀j,j<16->(j∈bQ E 0 16↔(E j).1≠0):=λj hj=>by
  rw [jK];exact⟨λh=>h.2.2,λh=>⟨by omega,by omega,h⟩⟩
 have k219:=λL h1 h2 hl=>bBG hE' L false h1 h2 hl
 obtain⟨k0,k1,k2,k3,e⟩:=bB hE
 obtain⟨q0,q1,q2,q3,e'⟩:=bB hE'
 obtain⟨kk,tt,hf,hk3⟩:=aRG E (bQ E 0 16)
 rw [hf,e] at k216
 rw [e] at k218⊢
 rw [e'] at k219⊢
 generalize bQ E 0 16=l at hlen hmem hmem2 k216 hk3
 clear hf
 refine aF (ob0:= []) [.c 45] Tryz.func118 rfl rfl rfl rfl ?_
 refine Wk2 k218 k216 ?_
 rw [show decide ((i:Int)<0)=false from decide_eq_false (by omega),show decide ((255:Int)< (i:Int))=false from decide_eq_false (by omega)]
 refine Wk2 k218 k216 ?_
 refine⟨Nat,λk=>k<=l.length,λk=>⟨[(1,⟨[],true,.int .i64 (i:Int)⟩),(2,⟨[],true,.int .i64 v⟩),(6,⟨[],true,.ptr 0 0 0⟩),(8,⟨[],true,.lst kk tt (bO E l)⟩),(9,⟨[],true,.sl 1 0 ((l.take k).filter (neB i)).length⟩),(10,⟨[],true,.int .i64 (k:Int)⟩)],
  [(0,.box [.int .i64 0,bR,.int .i64 0,.int .i64 0]),(1,.row 3 (bO E ((l.take k).filter (neB i))))],2⟩,λk=>l.length-k,⟨0,zT _,?_⟩,λk hI=>?_⟩
 ·exact Vw [some 1,none]
 dsimp only at hI⊢
 have hfl:((l.take k).filter (neB i)).length<=16:=by
  have :=zO (neB i) (l.take k)
  have :=List.length_take_le k l
  omega
 refine Wk ?_
 rw [aL]
 refine aC (λb1=>?_) (λb1=>?_)<;> try simp only [zD,zC,zG,zE,zK] at b1
 ·have b1:k<l.length:=by simp at b1;omega
  obtain rfl:=hk3 (by omega)
  have hft:=rY (neB i) l k 0 b1
  have hg:=kC E l k b1
  have hib:(((l.getD k 0:Nat):Int) != (i:Int))=neB i (l.getD k 0):=rfl
  generalize l.getD k 0=j at hft hg hib
  generalize(l.take k).filter (neB i)=F at hft hfl
  refine Wk ?_
  first |refine aB (⟨rfl,by omega,by rw [aL];omega⟩) ?_ |refine aH (λ_=>⟨rfl,by omega,by rw [aL];omega⟩) ?_ |refine⟨λ_=>⟨rfl,by omega,by rw [aL];omega⟩,?_⟩
  rw [zH,hg]
  refine Wk ?_
  rw [hib]
  refine aC (λb2=>?_) (λb2=>?_)<;> try simp only [zD,zC,zG,zE,zK] at b2
  ·rw [b2,cond_true] at hft
   refine Wk ?_
   first |refine aB (⟨rfl,by omega,by rw [aL];omega⟩) ?_ |refine aH (λ_=>⟨rfl,by omega,by rw [aL];omega⟩) ?_ |refine⟨λ_=>⟨rfl,by omega,by rw [aL];omega⟩,?_⟩
   rw [zH,hg]
   refine Wk ?_
   refine aB (aL E F).symm (bG (by rw [aL];show((F.length+1:Nat):Int)<=_;omega) (by rw [aL];show(F.length+1)*24<=_;omega) ?_)
   refine Wk ?_
   rw [cV (by omega)]
   refine⟨k+1,by show k+1<=_;omega,?_,by show l.length- (k+1)<l.length-k;omega⟩
   dsimp only
   rw [hft]
   refine bX [some 0,some 3] rfl rfl ?_ rfl ?_ rfl ?_
   repeat' (first |exact trivial |rfl |exact .inl rfl |exact .inr rfl |exact id |exact(λh=>Bool.noConfusion h)|refine And.intro ?_ ?_)
   ·show bO E F++ [oL E j]=_
    simp [bO]
   ·show(bO E F).length+1=_
    rw [aL,zF];rfl
  rw [b2,cond_false] at hft
  refine Wk ?_
  rw [cV (by omega)]
  refine⟨k+1,by show k+1<=_;omega,?_,by show l.length- (k+1)<l.length-k;omega⟩
  dsimp only
  rw [hft]
  exact Vw [some 0,some 1]
 have b1:k=l.length:=by simp at b1;omega
 subst b1
 rw [zS]
 have hF:∀j∈l.filter (neB i),j∈l/\j≠i:=λj hj=>by rw [List.mem_filter] at hj;exact⟨hj.1,aP6.1 hj.2⟩
 have hF2:∀j,j∈l->j≠i->j∈l.filter (neB i):=λj h1 h2=>List.mem_filter.2 ⟨h1,aP6.2 h2⟩
 have hrs:bO (cI E i (v,0)) (l.filter (neB i))=bO E (l.filter (neB i)):=aS5 λj hj=>(hF j hj).2
 have hFl:(l.filter (neB i)).length<=16:=Nat.le_trans (zO _ _) hlen
 generalize l.filter (neB i)=F at hF hF2 hrs hFl
 refine Wk ?_
 refine⟨List Nat,λL=>((∀j∈L,j<16)/\∀j,j<16->(j∈L↔(cI E i (v,0) j).1≠0))/\L.length<=100000,λL=>⟨[(6,⟨[],true,.ptr 0 0 0⟩),(9,⟨[],true,.lst 3 false (bO (cI E i (v,0)) L)⟩)],[(0,.box [.int .i64 0,bR,.int .i64 0,.int .i64 0])],1⟩,?_,λL hL=>?_⟩
 ·refine Wk ?_
  refine aC (λb3=>?_) (λb3=>?_)<;> try simp only [zD,zC,zG,zE,zK] at b3
  ·have b3:v≠0:=by simpa using b3
   refine Wk ?_
   refine aB (aL E F).symm (bG (by rw [aL];show((F.length+1:Nat):Int)<=_;omega) (by rw [aL];show(F.length+1)*24<=_;omega) ?_)
   refine Wk ?_
   refine⟨F++ [i],⟨⟨λj hj=>?_,λj hj=>?_⟩,by rw [zF,zI];omega⟩,?_⟩
   ·rcases List.mem_append.1 hj with hj |hj
    ·exact hmem j (hF j hj).1
    ·obtain rfl:=List.mem_singleton.1 hj;exact hi
   ·by_cases e:j=i
    ·subst e;rw [dH];exact⟨λ_=>b3,λ_=>List.mem_append_right _ (List.mem_singleton.2 rfl)⟩
    ·rw [cT e,<-hmem2 j hj,List.mem_append,List.mem_singleton]
     exact⟨λh=>(hF j (h.resolve_right e)).1,λh=>.inl (hF2 j h e)⟩
   have hr:bO E F++ [[V.int .i64 (i:Int),V.int .i64 v,V.int .i64 0]]=bO (cI E i (v,0)) (F++ [i]):=by
    rw [<-hrs];simp [bO,oL,dH]
   refine bX [some 0] rfl rfl ?_ rfl ?_ rfl ?_
   repeat' (first |exact trivial |rfl |exact .inl rfl |exact .inr rfl |exact id |exact(λh=>Bool.noConfusion h)|refine And.intro ?_ ?_)
   ·show 0+((bO E F).length+1)<=(bO E F++ [[V.int .i64 (i:Int),V.int .i64 v,V.int .i64 0]]).length
    rw [zF,zI];omega
   ·exact cA hr (zF ..)
  have b3:v=0:=by simpa using b3
  refine Wk ?_
  refine⟨F,⟨⟨λj hj=>hmem j (hF j hj).1,λj hj=>?_⟩,by omega⟩,?_⟩
  ·by_cases e:j=i
   ·subst e;rw [dH];exact⟨λh=>absurd rfl (hF j h).2,λh=>absurd b3 h⟩
   ·rw [cT e,<-hmem2 j hj]
    exact⟨λh=>(hF j h).1,λh=>hF2 j h e⟩
  dsimp only
  rw [hrs]
  refine bX [some 0] rfl rfl ?_ rfl ?_ rfl ?_
  repeat' (first |exact trivial |rfl |exact .inl rfl |exact .inr rfl |exact id |exact(λh=>Bool.noConfusion h)|refine And.intro ?_ ?_)
  ·rw [aL];omega
  ·exact cA rfl (aL _ _)
 refine cC (k219 L hL.1.1 hL.1.2 hL.2) ?_
 try subst hk
 exact Lf
end Go.Proofs.YtmhapcbjjpadnaaGreat
namespace Go.Proofs.YtmhapcbjjpadnaaGreat
open Go Go.Sk Go.RowKit
theorem bJA(m:Nat)(hm:m=1\/m=2\/m=4):aM Tryz.prog 361 [] [.int .i64 (m:Int)] (.bool true) []:=by
 rcases hm with rfl |rfl |rfl
 ·exact run_eq E1 40 (by kernel_rfl)
 ·exact run_eq E1 40 (by kernel_rfl)
 ·exact run_eq E1 40 (by kernel_rfl)
def jC(on:Bool)(x m:Nat):Nat:=bif on then x ||| m else x &&& (7 ^^^ m)
theorem aMI {on:Bool} {x m:Nat} (hx:x<8)(hm:m<8):jC on x m<8:=by
 have key:∀on:Bool,∀a b:Fin 8,jC on a.val b.val<8:=by decide
 exact key on ⟨x,hx⟩ ⟨m,hm⟩
theorem dM {x y:Nat} (hx:x<8)(hy:y<8):fH .andNot .i64 (x:Int) (y:Int)=((jC false x y:Nat):Int):=by
 have key:∀a:Fin 8,∀b:Fin 8,fH .andNot .i64 (a.val:Int) (b.val:Int)=((jC false a.val b.val:Nat):Int):=by decide
 exact key ⟨x,hx⟩ ⟨y,hy⟩
def jM(E:cM)(i:Nat)(on:Bool)(m:Nat):cM:=cI E i ((E i).1,jC on (E i).2 m)
theorem bH.mrk {E:cM} (hE:bH E) {i m:Nat} {on:Bool} (hm8:m<8)(hv:0< (E i).1):bH (jM E i on m):=by
 have h1:=aMI (on:=on) (hE.small i) hm8
 exact hE.set (p:=((E i).1,jC on (E i).2 m)) h1 (λh=>absurd h (by show ¬(E i).1<=0;omega))
theorem aZ7 {i:Nat} {l:List Nat} (h:i∈l):∃n:Nat,lF (i:Int) l 0=n/\n<l.length/\l.getD n 0=i:=by
 obtain⟨h1,h2⟩:=aET (i:=(i:Int)) (l:=l) (k:=0)
 have h0:0<=lF (i:Int) l 0:=Int.not_lt.1 λhn=>h2 hn i h rfl
 obtain⟨-,a2,a3⟩:=h1 h0
 rw [Nat.sub_zero] at a3
 exact⟨(lF (i:Int) l 0).toNat,by omega,by omega,by omega⟩
theorem aS6 {E:cM} {i:Nat} {p:Int×Nat} {l:List Nat} {n:Nat} (hn:n<l.length)(hi:l.getD n 0=i)(hu:∀k,k<l.length->l.getD k 0=i->k=n):
 (bO E l).set n (oL (cI E i p) i)=bO (cI E i p) l:=by
 apply List.ext_getElem?
 intro k
 simp only [bO,List.getElem?_set,List.getElem?_map,List.length_map]
 have hgd:∀x,l[k]? =some x->k<l.length/\l.getD k 0=x:=λx hx=>⟨(List.getElem?_eq_some_iff.1 hx).1,by simp [zA,hx]⟩
 by_cases e:n=k
 ·subst e
  rw [if_pos rfl,if_pos hn]
  have :l[n]? =some i:=by
   rw [zL hn,<-hi];simp [zA,hn]
  rw [this];rfl
 ·rw [if_neg e]
  cases hk:l[k]? with
  |none=>rfl
  |some x=>
   obtain⟨a1,a2⟩:=hgd x hk
   have hne:x≠i:=λh=>e (hu k a1 (by rw [a2];exact h)).symm
   show some (oL E x)=some (oL (cI E i p) x)
   unfold oL
   rw [cT hne]
theorem aE3(E:cM)(a:Nat):∀n (k k':Nat),k< (bQ E a n).length->k'< (bQ E a n).length->(bQ E a n).getD k 0=(bQ E a n).getD k' 0->k=k'
 |0,k,_,h,_,_=>absurd h (zM k)
 |n+1,k,k',h,h',e=>by
  have hl:∀j,j< (bQ E a n).length->(bQ E a n).getD j 0<a+n:=λj hj=>by
   have :(bQ E a n).getD j 0∈bQ E a n:=by simp only [zA,hj,zL,Option.getD_some];exact List.getElem_mem hj
   exact(jK.1 this).2.1
  rw [bQ] at h h' e
  cases hv:((E (a+n)).1==0) with
  |true=>simp only [hv,cond_true,zN] at h h' e;exact aE3 E a n k k' h h' e
  |false=>
   simp only [hv,cond_false,zF,zI] at h h' e
   have g1:∀j,j< (bQ E a n).length->(bQ E a n++ [a+n]).getD j 0=(bQ E a n).getD j 0:=λj hj=>by
    simp [zA,List.getElem?_append_left hj]
   have g2:(bQ E a n++ [a+n]).getD (bQ E a n).length 0=a+n:=by simp [zA]
   by_cases c:k< (bQ E a n).length <;> by_cases c':k'< (bQ E a n).length
   ·rw [g1 k c,g1 k' c'] at e;exact aE3 E a n k k' c c' e
   ·obtain rfl:k'=(bQ E a n).length:=by omega
    rw [g1 k c,g2] at e;have :=hl k c;omega
   ·obtain rfl:k=(bQ E a n).length:=by omega
    rw [g1 k' c',g2] at e;have :=hl k' c';omega
   ·omega
theorem bC9 {E:cM} (hE:bH E)(hs:rK E)(i:Nat)(hi:i<16)(m:Nat)(hm:m=1\/m=2\/m=4)(on:Bool)(hv:0< (E i).1):
 aM Tryz.prog 350 [] [.agg (can E),.int .i64 (i:Int),.int .i64 (m:Int),.bool on] (.tup [.agg (can (jM E i on m)),.int .i64 0]) []:=by
 have hm8:m<8:=by omega
 have k361:=bJA m hm
 have k218:=aV0 hE hs
 have hin:i∈bQ E 0 16:=jK.2 ⟨by omega,by omega,by omega⟩
 have k216:=bEL hE hs (zQ hin)
 have hE':=hE.mrk (i:=i) (on:=on) hm8 hv
 have hlen:=kU E 0 16
 have k219:=bBG hE' (bQ E 0 16) false (λj hj=>by have :=jK.1 hj;omega) (λj hj=>by
  unfold jM
  by_cases e:j=i
  ·subst e;rw [dH];exact⟨λ_=>by show(E j).1≠0;omega,λ_=>hin⟩
  ·rw [cT e,jK];exact⟨λh=>h.2.2,λh=>⟨by omega,by omega,h⟩⟩) (by omega)
 have k217:=bBF E (bQ E 0 16) (i:Int) (by omega)
 rw [tE (zQ hin)] at k217
 obtain⟨n,hpn,hn,hgn⟩:=aZ7 hin
 have hup:=aS6 (E:=E) (p:=((E i).1,jC on (E i).2 m)) hn hgn (λk hk e=>aE3 E 0 16 k n hk hn (by rw [e,hgn]))
 have hg:=kC E (bQ E 0 16) n hn
 rw [hgn] at hg
 rw [hpn] at k217
 have hx:=hE.small i
 obtain⟨k0,k1,k2,k3,e⟩:=bB hE
 obtain⟨q0,q1,q2,q3,e'⟩:=bB hE'
 rw [e] at k216
 rw [e] at k218⊢
 rw [e'] at k219⊢
 generalize bQ E 0 16=l at hlen k216 k217 k219 hn hup hg
 rw [<-cA (X:=bO E l) rfl (aL E l)] at k217
 refine aF (ob0:= []) [.s 62] Tryz.func350 rfl rfl rfl rfl ?_
 refine Wk2 k218 k361 ?_
 rw [show decide ((i:Int)<0)=false from decide_eq_false (by omega),show decide ((255:Int)< (i:Int))=false from decide_eq_false (by omega)]
 refine Wk2 k218 k361 ?_
 refine .inr ⟨λ_=>⟨[],_,_,_,k216,trivial,rfl,rfl,rfl,?_⟩,(by intro h;cases h)⟩
 refine Wk ?_
 refine .inl ⟨_,λ_=>⟨?_,k217⟩,.inr rfl,?_⟩
 ·intro v hv
  rcases List.mem_cons.1 hv with rfl |hv
  ·show 0+l.length<=(bO E l).length
   rw [aL];omega
  ·obtain rfl:=List.mem_singleton.1 hv
   exact trivial
 refine Wk ?_
 rw [show decide (0<=(n:Int)/\(n:Int)< (l.length:Int))=true from decide_eq_true ⟨by omega,by omega⟩]
 refine Wk ?_
 rw [show 0+(n:Int).toNat=n by omega,show decide (n< (bO E l).length)=true from decide_eq_true (by rw [aL];exact hn),hg]
 refine Wk ?_
 rw [show decide ((E i).1<0)=false from decide_eq_false (by omega),show decide ((n:Int)<0)=false from decide_eq_false (by omega)]
 refine Wk ?_
 cases on with
 |true=>
  refine Wk ?_
  rw [show decide (0<=(n:Int)/\(n:Int)< (l.length:Int))=true from decide_eq_true ⟨by omega,by omega⟩]
  refine Wk ?_
  rw [show 0+(n:Int).toNat=n by omega,show decide (n< (bO E l).length)=true from decide_eq_true (by rw [aL];exact hn),hg]
  refine Wk ?_
  rw [cR hx hm8]
  refine Wk ?_
  rw [show decide (0<=(n:Int)/\(n:Int)< (l.length:Int))=true from decide_eq_true ⟨by omega,by omega⟩]
  refine Wk ?_
  rw [show 0+(n:Int).toNat=n by omega,show decide (n< (bO E l).length)=true from decide_eq_true (by rw [aL];exact hn),hg]
  refine Wk ?_
  refine⟨Unit,λ_=>True,λ_=>⟨[(8,⟨[],true,.ptr 0 0 0⟩),(62,⟨[],true,.lst 3 false (bO (jM E i true m) l)⟩)],[(0,.box [.int .i64 0,bR,.int .i64 0,.int .i64 0])],1⟩,?_,λ_ _=>?_⟩
  ·refine Wk ?_
   refine⟨(),trivial,?_⟩
   have hup2:(bO E l).set n [.int .i64 (i:Int),.int .i64 (E i).1,.int .i64 ((jC true (E i).2 m:Nat):Int)]=bO (jM E i true m) l:=by
    rw [jM,<-hup,oL,dH]
   refine bX [some 1] rfl rfl ?_ rfl ?_ rfl ?_
   repeat' (first |exact trivial |rfl |exact .inl rfl |exact .inr rfl |exact id |exact(λh=>Bool.noConfusion h)|refine And.intro ?_ ?_)
   ·show 0+l.length<=((bO E l).set n [.int .i64 (i:Int),.int .i64 (E i).1,.int .i64 ((jC true (E i).2 m:Nat):Int)]).length
    rw [zJ,aL];omega
   ·exact cA hup2 (by rw [zJ,aL])
  refine cC k219 ?_
  try subst hk
  exact Lf
 |false=>
  refine Wk ?_
  rw [show decide (0<=(n:Int)/\(n:Int)< (l.length:Int))=true from decide_eq_true ⟨by omega,by omega⟩]
  refine Wk ?_
  rw [show 0+(n:Int).toNat=n by omega,show decide (n< (bO E l).length)=true from decide_eq_true (by rw [aL];exact hn),hg]
  refine Wk ?_
  rw [dM hx hm8]
  refine Wk ?_
  rw [show decide (0<=(n:Int)/\(n:Int)< (l.length:Int))=true from decide_eq_true ⟨by omega,by omega⟩]
  refine Wk ?_
  rw [show 0+(n:Int).toNat=n by omega,show decide (n< (bO E l).length)=true from decide_eq_true (by rw [aL];exact hn),hg]
  refine Wk ?_
  refine⟨Unit,λ_=>True,λ_=>⟨[(8,⟨[],true,.ptr 0 0 0⟩),(62,⟨[],true,.lst 3 false (bO (jM E i false m) l)⟩)],[(0,.box [.int .i64 0,bR,.int .i64 0,.int .i64 0])],1⟩,?_,λ_ _=>?_⟩
  ·refine Wk ?_
   refine⟨(),trivial,?_⟩
   have hup2:(bO E l).set n [.int .i64 (i:Int),.int .i64 (E i).1,.int .i64 ((jC false (E i).2 m:Nat):Int)]=bO (jM E i false m) l:=by
    rw [jM,<-hup,oL,dH]
   refine bX [some 1] rfl rfl ?_ rfl ?_ rfl ?_
   repeat' (first |exact trivial |rfl |exact .inl rfl |exact .inr rfl |exact id |exact(λh=>Bool.noConfusion h)|refine And.intro ?_ ?_)
   ·show 0+l.length<=((bO E l).set n [.int .i64 (i:Int),.int .i64 (E i).1,.int .i64 ((jC false (E i).2 m:Nat):Int)]).length
    rw [zJ,aL];omega
   ·exact cA hup2 (by rw [zJ,aL])
  refine cC k219 ?_
  try subst hk
  exact Lf
theorem aVC {E:cM} (hE:bH E)(hs:rK E)(i:Nat)(hi:i<16)(m:Nat)(hm:m=1\/m=2\/m=4)(hv:0< (E i).1):
 aM Tryz.prog 319 [] [.agg (can E),.int .i64 (i:Int),.int .i64 (m:Int)] (.tup [.agg (can (jM E i true m)),.int .i64 0]) []:=by
 have hm8:m<8:=by omega
 have hE':=hE.mrk (i:=i) (on:=true) hm8 hv
 have k350:=bC9 hE hs i hi m hm true hv
 obtain⟨k0,k1,k2,k3,e⟩:=bB hE
 obtain⟨q0,q1,q2,q3,e'⟩:=bB hE'
 rw [e,e'] at k350
 rw [e,e']
 refine aF (ob0:= []) [] Tryz.func319 rfl rfl rfl rfl ?_
 refine cC k350 ?_
 try subst hk
 exact Lf
theorem aVD {E:cM} (hE:bH E)(hs:rK E)(i:Nat)(hi:i<16)(m:Nat)(hm:m=1\/m=2\/m=4)(hv:0< (E i).1):
 aM Tryz.prog 320 [] [.agg (can E),.int .i64 (i:Int),.int .i64 (m:Int)] (.tup [.agg (can (jM E i false m)),.int .i64 0]) []:=by
 have hm8:m<8:=by omega
 have hE':=hE.mrk (i:=i) (on:=false) hm8 hv
 have k350:=bC9 hE hs i hi m hm false hv
 obtain⟨k0,k1,k2,k3,e⟩:=bB hE
 obtain⟨q0,q1,q2,q3,e'⟩:=bB hE'
 rw [e,e'] at k350
 rw [e,e']
 refine aF (ob0:= []) [] Tryz.func320 rfl rfl rfl rfl ?_
 refine cC k350 ?_
 try subst hk
 exact Lf
end Go.Proofs.YtmhapcbjjpadnaaGreat
namespace Go.Proofs.YtmhapcbjjpadnaaGreat
open Go Go.Sk Go.RowKit
theorem bHY {E:cM} (hE:bH E):∀(h a:Nat),aM Tryz.prog 199 [] [.agg (sub E h a),.agg (sub E h a)] (.bool true) []:=by
 intro h
 induction h with
 |zero=>
  intro a
  rw [sub]
  generalize(E a).1=v
  generalize((E a).2:Int)=m
  refine aF (ob0:= []) [] Tryz.func199 rfl rfl rfl rfl ?_
  refine Wk ?_
  rw [show(v != v)=false from bne_self_eq_false v,show(m != m)=false from bne_self_eq_false m]
  refine Wk ?_
  refine⟨Unit,λ_=>True,λ_=>⟨[(2,⟨[],true,.ptr 0 0 0⟩),(3,⟨[],true,.ptr 1 0 0⟩),(5,⟨[],true,.int .i64 0⟩)],[(0,.box [bR,.int .i64 v,.int .i64 m]),(1,.box [bR,.int .i64 v,.int .i64 m])],2⟩,λ_=>0,⟨(),trivial,?_⟩,λ_ _=>?_⟩
  ·exact Vw [some 0,some 1]
  refine Wk ?_
  try subst hk
  exact Lf
 |succ h ih=>
  intro a
  cases hn:fQ E a (4^(h+1)) with
  |true=>
   rw [dZ hE hn]
   exact aLF E1 40 (by kernel_rfl)
  |false=>
   rw [gT hn]
   generalize((lI E a (4^(h+1)):Nat):Int)=m
   refine aF (ob0:= []) [] Tryz.func199 rfl rfl rfl rfl ?_
   refine Wk ?_
   rw [show(m != m)=false from bne_self_eq_false m]
   refine Wk ?_
   refine⟨Nat,λi=>i<=4,λi=>⟨[(2,⟨[],true,.ptr 0 0 0⟩),(3,⟨[],true,.ptr 1 0 0⟩),(5,⟨[],true,.int .i64 (i:Int)⟩)],[(0,.box [.lst 3 false (kids E h a),.int .i64 0,.int .i64 m]),(1,.box [.lst 3 false (kids E h a),.int .i64 0,.int .i64 m])],2⟩,λi=>4-i,⟨0,zT _,?_⟩,λi hI=>?_⟩
   ·exact Vw [some 0,some 1]
   dsimp only at hI⊢
   refine Wk ?_
   rw [show(kids E h a).length=4 from rfl]
   refine aC (λb1=>?_) (λb1=>?_)<;> try simp only [zD,zC,zG,zE,zK] at b1
   ·have b1:i<4:=by simp at b1;omega
    obtain⟨k0,k1,k2,k3,e⟩:=iG hE h (a+i*4^h)
    have ih':=ih (a+i*4^h)
    have hg:=eN E h a i b1
    rw [e] at ih' hg
    refine Wk ?_
    first |refine aB (⟨rfl,by omega,by show(i:Int)<4;omega⟩) ?_ |refine aH (λ_=>⟨rfl,by omega,by show(i:Int)<4;omega⟩) ?_ |refine⟨λ_=>⟨rfl,by omega,by show(i:Int)<4;omega⟩,?_⟩
    rw [zH,hg]
    refine Wk ?_
    first |refine aB (⟨rfl,by omega,by show(i:Int)<4;omega⟩) ?_ |refine aH (λ_=>⟨rfl,by omega,by show(i:Int)<4;omega⟩) ?_ |refine⟨λ_=>⟨rfl,by omega,by show(i:Int)<4;omega⟩,?_⟩
    rw [zH,hg]
    refine cC ih' ?_
    rw [cV (by omega)]
    refine⟨i+1,by show i+1<=4;omega,?_,by show 4- (i+1)<4-i;omega⟩
    exact Vw [some 0,some 1]
   have b1:i=4:=by simp at b1;omega
   refine Wk ?_
   try subst hk
   exact Lf
theorem bMW {E:cM} (hE:bH E):aM Tryz.prog 93 [] [.agg (can E),.agg (can E)] (.bool true) []:=by
 have k199:=bHY hE (hgt E) 0
 unfold can
 obtain⟨k0,k1,k2,k3,e⟩:=iG hE (hgt E) 0
 rw [e] at k199⊢
 refine aF (ob0:= []) [] Tryz.func93 rfl rfl rfl rfl ?_
 refine cC k199 ?_
 rw [beq_self_eq_true]
 try subst hk
 exact Lf
end Go.Proofs.YtmhapcbjjpadnaaGreat
