/- Caches. -/
import Derived.Test.YtmhapcbjjpadnaaGreatGAm
set_option linter.unusedSimpArgs false
set_option linter.unusedVariables false
open List renaming getD_eq_getElem?_getD→zA,length_set→zC,getElem?_eq_getElem→zD,append_nil→zF,ne_nil_of_mem→zH
open Nat renaming not_lt_zero→zE,pow_le_pow_right→zG
set_option linter.constructorNameAsVariable false
set_option maxRecDepth 40000
namespace Go.Proofs.YtmhapcbjjpadnaaGreat
open Go Go.Sk Go.RowKit
def tJ(E:cI):Prop:=∀j,16≤j→(E j).1=0
def vS(E:cI):Nat→Nat
 |0=>0
 |n+1=>bif (E n).1==0 then vS E n else n
theorem jZ(E:cI):∀n,(∀j,j<n→(E j).1≠0→j≤vS E n)∧(vS E n=0∨(vS E n<n∧(E (vS E n)).1≠0))
 |0=>⟨fun j h=>absurd h (zE j),.inl rfl⟩
 |n+1=>by
  obtain⟨h1,h2⟩:=jZ E n
  rw [vS]
  cases hv:((E n).1==0) with
  |true=>
   have hv:(E n).1=0:=by simpa using hv
   simp only [cond_true]
   refine⟨fun j hj he=>?_,h2.elim .inl fun h=>.inr ⟨by omega,h.2⟩⟩
   by_cases e:j=n
   ·subst e;exact absurd hv he
   ·exact h1 j (by omega) he
  |false=>
   have hv:(E n).1≠0:=by simpa using hv
   simp only [cond_false]
   exact⟨fun j hj _=>by omega,.inr ⟨by omega,hv⟩⟩
def aD0(l:List Nat):Nat:=l.foldl max 0
theorem aPP(l:List Nat)(x:Nat):aD0 (l++ [x])=max (aD0 l) x:=by simp [aD0,List.foldl_append]
theorem aF3(l:List Nat):(∀j∈l,j≤aD0 l)∧(aD0 l=0∨aD0 l∈l):=by
 have key:∀(l:List Nat) (m:Nat),(m≤l.foldl max m∧∀j∈l,j≤l.foldl max m)∧(l.foldl max m=m∨l.foldl max m∈l):=by
  intro l
  induction l with
  |nil=>exact fun m=>⟨⟨Nat.le_refl _,by simp⟩,.inl rfl⟩
  |cons x r ih=>
   intro m
   obtain⟨⟨h1,h2⟩,h3⟩:=ih (max m x)
   rw [List.foldl_cons]
   refine⟨⟨by omega,fun j hj=>?_⟩,?_⟩
   ·rcases List.mem_cons.1 hj with rfl |hj
    ·omega
    ·exact h2 j hj
   ·rcases h3 with h3 |h3
    ·rw [h3]
     by_cases e:m≤x
     ·right;rw [Nat.max_eq_right e];exact List.mem_cons_self
     ·left;exact Nat.max_eq_left (by omega)
    ·exact .inr (List.mem_cons_of_mem _ h3)
 exact⟨(key l 0).1.2,(key l 0).2⟩
theorem aX3 {E:cI} {l:List Nat} (h1:∀j∈l,j<16)(h2:∀j,j<16→(j∈l↔(E j).1≠0)):aD0 l=vS E 16:=by
 obtain⟨a1,a2⟩:=aF3 l
 obtain⟨b1,b2⟩:=jZ E 16
 apply Nat.le_antisymm
 ·rcases a2 with a2 |a2
  ·omega
  ·exact b1 _ (h1 _ a2) ((h2 _ (h1 _ a2)).1 a2)
 ·rcases b2 with b2 |b2
  ·omega
  ·exact a1 _ ((h2 _ b2.1).2 b2.2)
def hgt(E:cI):Nat:=htE (vS E 16)
def can(E:cI):List V:=.int .i64 (hgt E:Int)::sub E (hgt E) 0
theorem mS(i:Nat):htE i≤2:=by unfold htE;cases Nat.beq i 0 <;> cases Nat.blt i 4 <;> decide
theorem aGC {i:Nat} (h:i<16):i<4^htE i:=by
 have key:∀i:Fin 16,i.val<4^htE i.val:=by decide
 exact key ⟨i,h⟩
theorem vT(E:cI):vS E 16<16:=by rcases(jZ E 16).2 with h |h <;> omega
theorem rM {E:cI} (hs:tJ E):∀j,4^hgt E≤j→(E j).1=0:=fun j hj=>by
 by_cases h0:(E j).1=0
 ·exact h0
 ·by_cases h1:j<16
  ·have :=(jZ E 16).1 j h1 h0
   have :=aGC (vT E)
   unfold hgt at hj;omega
  ·exact hs j (by omega)
theorem aEV {E:cI} {m:Nat} (hm:(E m).1≠0):∀n,m<n→(∀j,m<j→j<n→(E j).1=0)→∃r,bS E 0 n=r++ [m]
 |0,h,_=>absurd h (zE m)
 |n+1,h,hz=>by
  rw [bS,Nat.zero_add]
  by_cases e:n=m
  ·subst e
   exact⟨bS E 0 n,by rw [show((E n).1==0)=false from beq_eq_false_iff_ne.2 hm];rfl⟩
  ·rw [show((E n).1==0)=true from beq_iff_eq.2 (hz n (by omega) (by omega)),cond_true,zF]
   exact aEV hm n (by omega) fun j h1 h2=>hz j h1 (by omega)
theorem aN6 {E:cI} (hs:tJ E):bDE (bS E 0 (4^hgt E)) (hgt E):=by
 obtain⟨b1,b2⟩:=jZ E 16
 have hp:=aGC (vT E)
 by_cases h0:(E (vS E 16)).1=0
 ·have hm:vS E 16=0:=by rcases b2 with b2 |b2;exact b2;exact absurd h0 b2.2
  have hh:hgt E=0:=by unfold hgt;rw [hm];rfl
  rw [hm] at h0
  have h1n:fA E 0 (4^0)=true:=gG.2 fun i hi=>by
   obtain rfl:i=0:=by have :(4:Nat)^0=1:=rfl;omega
   exact h0
  rw [hh,rN h1n]
  exact rfl
 ·obtain⟨r,hr⟩:=aEV h0 (4^hgt E) hp fun j h1 h2=>by
   by_cases h3:(E j).1=0
   ·exact h3
   ·by_cases h4:j<16
    ·have :=b1 j h4 h3;omega
    ·exact hs j (by omega)
  rw [hr]
  have hl:aCX (r++ [vS E 16])=vS E 16:=by simp [aCX]
  cases r with
  |nil=>exact congrArg htE hl
  |cons x r=>exact congrArg htE hl
set_option maxRecDepth 20000 in
theorem bFG {E:cI} (hE:bK E)(l:List Nat)(t:Bool)(h1:∀j∈l,j<16)(h2:∀j,j<16→(j∈l↔(E j).1≠0))(hl:l.length≤100000):aQ Tryz.prog 219 [] [.lst 3 t (bU E l)] (.agg (can E)) []:=by
 have k295:aQ Tryz.prog 295 [] [.int .i64 (vS E 16:Nat)] (.int .i64 (hgt E:Int)) []:=bAA (vS E 16) (vT E)
 have hh:=mS (vS E 16)
 have hp:4^hgt E≤16:=zG (n:=4) (by decide) hh
 have k296:=bFV hE (hgt E) 0 l t (by unfold hgt;omega) (by omega) (fun j _ hj=>h2 j (by omega)) (fun j hj=>by have :=h1 j hj;omega) hl
 have hmx:=aX3 h1 h2
 have hmt:∀k,aD0 (l.take k)<16:=fun k=>by
  rcases(aF3 (l.take k)).2 with h |h
  ·omega
  ·exact h1 _ (List.mem_of_mem_take h)
 unfold can
 obtain⟨k0,k1,k2,k3,e⟩:=iW hE (hgt E) 0
 rw [e] at k296⊢
 refine aF (ob0:= []) [] Tryz.func219 rfl rfl rfl rfl ?_
 refine Wk ?_
 refine⟨Nat,fun k=>k≤l.length,fun k=>⟨[(0,⟨[],true,.lst 3 t (bU E l)⟩),(2,⟨[],true,.ptr 0 0 0⟩),(3,⟨[],true,.int .i64 (aD0 (l.take k):Nat)⟩),(4,⟨[],true,.int .i64 (k:Int)⟩)],[(0,.box [.int .i64 0,bJ,.int .i64 0,.int .i64 0])],1⟩,fun k=>l.length-k,⟨0,Nat.zero_le _,?_⟩,fun k hI=>?_⟩
 ·exact Vw [some 0]
 dsimp only at hI⊢
 refine Wk ?_
 rw [aN]
 refine aI (fun b1=>?_) (fun b1=>?_)<;> try simp only [Bool.cond_true_left,Bool.cond_false_right,Bool.not_eq_true',Bool.not_eq_false',Bool.not_not] at b1
 ·have b1:k<l.length:=by simp at b1;omega
  have hs:=aPP (l.take k) (l.getD k 0)
  rw [←aB1 0 b1] at hs
  refine Wk ?_
  first |refine aE (⟨rfl,by omega,by rw [aN];omega⟩) ?_ |refine aM (fun _=>⟨rfl,by omega,by rw [aN];omega⟩) ?_ |refine⟨fun _=>⟨rfl,by omega,by rw [aN];omega⟩,?_⟩
  rw [Int.toNat_natCast,nY E l k b1]
  refine Wk ?_
  rw [show max ((aD0 (l.take k):Nat):Int) ((l.getD k 0:Nat):Int)=((max (aD0 (l.take k)) (l.getD k 0):Nat):Int) by omega,←hs,fC (by omega)]
  refine⟨k+1,by show k+1≤_;omega,?_,by show l.length- (k+1)<l.length-k;omega⟩
  exact Vw [some 0]
 have b1:k=l.length:=by simp at b1;omega
 subst b1
 rw [List.take_length,hmx]
 refine Wk2 k295 k296 ?_
 try subst hk
 exact Lf
theorem bC {E:cI} (hE:bK E):∃k n xs v,can E=[.int .i64 (hgt E:Int),.lst k n xs,.int .i64 v,.int .i64 (lS E 0 (4^hgt E):Nat)]:=by
 obtain⟨k0,k1,k2,k3,e⟩:=iW hE (hgt E) 0
 exact⟨k0,k1,k2,k3,by rw [can,e]⟩
theorem bCN {E:cI} (hE:bK E)(hs:tJ E):aQ Tryz.prog 218 [] [.agg (can E)] (.bool true) []:=aZX hE _ (mS _) (aN6 hs)
theorem aN9 {E:cI} {m:Nat} (hz:∀j,m≤j→(E j).1=0):∀ {n},m≤n→bS E 0 n=bS E 0 m
 |0,h=>by obtain rfl:m=0:=by omega
          rfl
 |n+1,h=>by
  by_cases e:m=n+1
  ·subst e;rfl
  ·rw [bS,Nat.zero_add,show((E n).1==0)=true from beq_iff_eq.2 (hz n (by omega)),cond_true,zF,aN9 hz (by omega)]
theorem aN8 {E:cI} (hs:tJ E):bS E 0 (4^hgt E)=bS E 0 16:=(aN9 (rM hs) (zG (n:=4) (by decide) (mS _))).symm
theorem bCM {E:cI} (hE:bK E)(hs:tJ E)(hn:bS E 0 16≠ []):aQ Tryz.prog 216 [] [.agg (can E)] (.sl 0 0 (bS E 0 16).length) [.row 3 (bU E (bS E 0 16))]:=by
 have :=bCL hE (hgt E) (mS _) (aN6 hs) (by
  cases h:fA E 0 (4^hgt E) with
  |false=>rfl
  |true=>exact absurd (rN h) (by rw [aN8 hs];exact hn))
 rwa [aN8 hs] at this
end Go.Proofs.YtmhapcbjjpadnaaGreat
set_option maxRecDepth 40000
namespace Go.Proofs.YtmhapcbjjpadnaaGreat
open Go Go.Sk Go.RowKit
def dA(E:cI)(i:Nat)(p:Int×Nat):cI:=fun j=>bif Nat.beq j i then p else E j
theorem cR(E:cI)(i:Nat)(p:Int×Nat):dA E i p i=p:=by simp [dA]
theorem cW {E:cI} {i j:Nat} {p:Int×Nat} (h:j≠i):dA E i p j=E j:=by
 unfold dA;rw [show Nat.beq j i=false from Bool.eq_false_iff.2 fun e=>h (Nat.eq_of_beq_eq_true e)];rfl
theorem bK.set {E:cI} (h:bK E) {i:Nat} {p:Int×Nat} (h1:p.2<8)(h2:p.1≤0→p.2=0):bK (dA E i p):=by
 first |refine aI (fun j=>?_) (fun j=>?_)<;> by_cases e:j=i |refine⟨fun j=>?_,fun j=>?_⟩<;> by_cases e:j=i
 ·subst e;rw [cR];exact h1
 ·rw [cW e];exact h.small j
 ·subst e;rw [cR];exact h2
 ·rw [cW e];exact h.none j
theorem tJ.set {E:cI} (h:tJ E) {i:Nat} (hi:i<16)(p:Int×Nat):tJ (dA E i p):=fun j hj=>by rw [cW (by omega)];exact h j hj
end Go.Proofs.YtmhapcbjjpadnaaGreat
set_option maxRecDepth 40000
namespace Go.Proofs.YtmhapcbjjpadnaaGreat
open Go Go.Sk Go.RowKit
theorem bGI(m:Nat)(hm:m=1∨m=2∨m=4):aQ Tryz.prog 361 [] [.int .i64 (m:Int)] (.bool true) []:=by
 rcases hm with rfl |rfl |rfl
 ·exact run_eq E1 40 (by kernel_rfl)
 ·exact run_eq E1 40 (by kernel_rfl)
 ·exact run_eq E1 40 (by kernel_rfl)
def gP(on:Bool)(x m:Nat):Nat:=bif on then x ||| m else x &&& (7 ^^^ m)
theorem aRK {on:Bool} {x m:Nat} (hx:x<8)(hm:m<8):gP on x m<8:=by
 have key:∀on:Bool,∀a b:Fin 8,gP on a.val b.val<8:=by decide
 exact key on ⟨x,hx⟩ ⟨m,hm⟩
theorem gH {x y:Nat} (hx:x<8)(hy:y<8):fN .andNot .i64 (x:Int) (y:Int)=((gP false x y:Nat):Int):=by
 have key:∀a:Fin 8,∀b:Fin 8,fN .andNot .i64 (a.val:Int) (b.val:Int)=((gP false a.val b.val:Nat):Int):=by decide
 exact key ⟨x,hx⟩ ⟨y,hy⟩
def iQ(E:cI)(i:Nat)(on:Bool)(m:Nat):cI:=dA E i ((E i).1,gP on (E i).2 m)
theorem bK.mrk {E:cI} (hE:bK E) {i m:Nat} {on:Bool} (hm8:m<8)(hv:0< (E i).1):bK (iQ E i on m):=by
 have h1:=aRK (on:=on) (hE.small i) hm8
 exact hE.set (p:=((E i).1,gP on (E i).2 m)) h1 (fun h=>absurd h (by show ¬(E i).1≤0;omega))
theorem aXK {i:Nat} {l:List Nat} (h:i∈l):∃n:Nat,nU (i:Int) l 0=n∧n<l.length∧l.getD n 0=i:=by
 obtain⟨h1,h2⟩:=aJ6 (i:=(i:Int)) (l:=l) (k:=0)
 have h0:0≤nU (i:Int) l 0:=Int.not_lt.1 fun hn=>h2 hn i h rfl
 obtain⟨-,a2,a3⟩:=h1 h0
 rw [Nat.sub_zero] at a3
 exact⟨(nU (i:Int) l 0).toNat,by omega,by omega,by omega⟩
theorem aQD {E:cI} {i:Nat} {p:Int×Nat} {l:List Nat} {n:Nat} (hn:n<l.length)(hi:l.getD n 0=i)(hu:∀k,k<l.length→l.getD k 0=i→k=n):
 (bU E l).set n (pX (dA E i p) i)=bU (dA E i p) l:=by
 apply List.ext_getElem?
 intro k
 simp only [bU,List.getElem?_set,List.getElem?_map,List.length_map]
 have hgd:∀x,l[k]? =some x→k<l.length∧l.getD k 0=x:=fun x hx=>⟨(List.getElem?_eq_some_iff.1 hx).1,by simp [zA,hx]⟩
 by_cases e:n=k
 ·subst e
  rw [if_pos rfl,if_pos hn]
  have :l[n]? =some i:=by
   rw [zD hn,←hi];simp [zA,hn]
  rw [this];rfl
 ·rw [if_neg e]
  cases hk:l[k]? with
  |none=>rfl
  |some x=>
   obtain⟨a1,a2⟩:=hgd x hk
   have hne:x≠i:=fun h=>e (hu k a1 (by rw [a2];exact h)).symm
   show some (pX E x)=some (pX (dA E i p) x)
   unfold pX
   rw [cW hne]
theorem aCS(E:cI)(a:Nat):∀n (k k':Nat),k< (bS E a n).length→k'< (bS E a n).length→(bS E a n).getD k 0=(bS E a n).getD k' 0→k=k'
 |0,k,_,h,_,_=>absurd h (zE k)
 |n+1,k,k',h,h',e=>by
  have hl:∀j,j< (bS E a n).length→(bS E a n).getD j 0<a+n:=fun j hj=>by
   have :(bS E a n).getD j 0∈bS E a n:=by simp only [zA,hj,zD,Option.getD_some];exact List.getElem_mem hj
   exact(nK.1 this).2.1
  rw [bS] at h h' e
  cases hv:((E (a+n)).1==0) with
  |true=>simp only [hv,cond_true,zF] at h h' e;exact aCS E a n k k' h h' e
  |false=>
   simp only [hv,cond_false,List.length_append,List.length_singleton] at h h' e
   have g1:∀j,j< (bS E a n).length→(bS E a n++ [a+n]).getD j 0=(bS E a n).getD j 0:=fun j hj=>by
    simp [zA,List.getElem?_append_left hj]
   have g2:(bS E a n++ [a+n]).getD (bS E a n).length 0=a+n:=by simp [zA]
   by_cases c:k< (bS E a n).length <;> by_cases c':k'< (bS E a n).length
   ·rw [g1 k c,g1 k' c'] at e;exact aCS E a n k k' c c' e
   ·obtain rfl:k'=(bS E a n).length:=by omega
    rw [g1 k c,g2] at e;have :=hl k c;omega
   ·obtain rfl:k=(bS E a n).length:=by omega
    rw [g1 k' c',g2] at e;have :=hl k' c';omega
   ·omega
set_option maxRecDepth 20000 in
theorem bAL {E:cI} (hE:bK E)(hs:tJ E)(i:Nat)(hi:i<16)(m:Nat)(hm:m=1∨m=2∨m=4)(on:Bool)(hv:0< (E i).1):
 aQ Tryz.prog 350 [] [.agg (can E),.int .i64 (i:Int),.int .i64 (m:Int),.bool on] (.tup [.agg (can (iQ E i on m)),.int .i64 0]) []:=by
 have hm8:m<8:=by omega
 have k361:=bGI m hm
 have k218:=bCN hE hs
 have hin:i∈bS E 0 16:=nK.2 ⟨by omega,by omega,by omega⟩
 have k216:=bCM hE hs (zH hin)
 have hE':=hE.mrk (i:=i) (on:=on) hm8 hv
 have hlen:=nJ E 0 16
 have k219:=bFG hE' (bS E 0 16) false (fun j hj=>by have :=nK.1 hj;omega) (fun j hj=>by
  unfold iQ
  by_cases e:j=i
  ·subst e;rw [cR];exact⟨fun _=>by show(E j).1≠0;omega,fun _=>hin⟩
  ·rw [cW e,nK];exact⟨fun h=>h.2.2,fun h=>⟨by omega,by omega,h⟩⟩) (by omega)
 have k217:=bFF E (bS E 0 16) (i:Int) (by omega)
 rw [aBO (zH hin)] at k217
 obtain⟨n,hpn,hn,hgn⟩:=aXK hin
 have hup:=aQD (E:=E) (p:=((E i).1,gP on (E i).2 m)) hn hgn (fun k hk e=>aCS E 0 16 k n hk hn (by rw [e,hgn]))
 have hg:=nY E (bS E 0 16) n hn
 rw [hgn] at hg
 rw [hpn] at k217
 have hx:=hE.small i
 obtain⟨k0,k1,k2,k3,e⟩:=bC hE
 obtain⟨q0,q1,q2,q3,e'⟩:=bC hE'
 rw [e] at k216
 rw [e] at k218⊢
 rw [e'] at k219⊢
 generalize bS E 0 16=l at hlen k216 k217 k219 hn hup hg
 rw [←fP (X:=bU E l) rfl (aN E l)] at k217
 refine aF (ob0:= []) [.s 62] Tryz.func350 rfl rfl rfl rfl ?_
 refine Wk2 k218 k361 ?_
 rw [show decide ((i:Int)<0)=false from decide_eq_false (by omega),show decide ((255:Int)< (i:Int))=false from decide_eq_false (by omega)]
 refine Wk2 k218 k361 ?_
 refine .inr ⟨fun _=>⟨[],_,_,_,k216,trivial,rfl,rfl,rfl,?_⟩,(by intro h;cases h)⟩
 refine Wk ?_
 refine .inl ⟨_,fun _=>⟨?_,k217⟩,.inr rfl,?_⟩
 ·intro v hv
  rcases List.mem_cons.1 hv with rfl |hv
  ·show 0+l.length≤(bU E l).length
   rw [aN];omega
  ·obtain rfl:=List.mem_singleton.1 hv
   exact trivial
 refine Wk ?_
 rw [show decide (0≤(n:Int)∧(n:Int)< (l.length:Int))=true from decide_eq_true ⟨by omega,by omega⟩]
 refine Wk ?_
 rw [show 0+(n:Int).toNat=n by omega,show decide (n< (bU E l).length)=true from decide_eq_true (by rw [aN];exact hn),hg]
 refine Wk ?_
 rw [show decide ((E i).1<0)=false from decide_eq_false (by omega),show decide ((n:Int)<0)=false from decide_eq_false (by omega)]
 refine Wk ?_
 cases on with
 |true=>
  refine Wk ?_
  rw [show decide (0≤(n:Int)∧(n:Int)< (l.length:Int))=true from decide_eq_true ⟨by omega,by omega⟩]
  refine Wk ?_
  rw [show 0+(n:Int).toNat=n by omega,show decide (n< (bU E l).length)=true from decide_eq_true (by rw [aN];exact hn),hg]
  refine Wk ?_
  rw [fX hx hm8]
  refine Wk ?_
  rw [show decide (0≤(n:Int)∧(n:Int)< (l.length:Int))=true from decide_eq_true ⟨by omega,by omega⟩]
  refine Wk ?_
  rw [show 0+(n:Int).toNat=n by omega,show decide (n< (bU E l).length)=true from decide_eq_true (by rw [aN];exact hn),hg]
  refine Wk ?_
  refine⟨Unit,fun _=>True,fun _=>⟨[(8,⟨[],true,.ptr 0 0 0⟩),(62,⟨[],true,.lst 3 false (bU (iQ E i true m) l)⟩)],[(0,.box [.int .i64 0,bJ,.int .i64 0,.int .i64 0])],1⟩,?_,fun _ _=>?_⟩
  ·refine Wk ?_
   refine⟨(),trivial,?_⟩
   have hup2:(bU E l).set n [.int .i64 (i:Int),.int .i64 (E i).1,.int .i64 ((gP true (E i).2 m:Nat):Int)]=bU (iQ E i true m) l:=by
    rw [iQ,←hup,pX,cR]
   refine cO [some 1] rfl rfl ?_ rfl ?_ rfl ?_
   repeat' (first |exact trivial |rfl |exact .inl rfl |exact .inr rfl |exact id |exact(fun h=>Bool.noConfusion h)|refine And.intro ?_ ?_)
   ·show 0+l.length≤((bU E l).set n [.int .i64 (i:Int),.int .i64 (E i).1,.int .i64 ((gP true (E i).2 m:Nat):Int)]).length
    rw [zC,aN];omega
   ·exact fP hup2 (by rw [zC,aN])
  refine dF k219 ?_
  try subst hk
  exact Lf
 |false=>
  refine Wk ?_
  rw [show decide (0≤(n:Int)∧(n:Int)< (l.length:Int))=true from decide_eq_true ⟨by omega,by omega⟩]
  refine Wk ?_
  rw [show 0+(n:Int).toNat=n by omega,show decide (n< (bU E l).length)=true from decide_eq_true (by rw [aN];exact hn),hg]
  refine Wk ?_
  rw [gH hx hm8]
  refine Wk ?_
  rw [show decide (0≤(n:Int)∧(n:Int)< (l.length:Int))=true from decide_eq_true ⟨by omega,by omega⟩]
  refine Wk ?_
  rw [show 0+(n:Int).toNat=n by omega,show decide (n< (bU E l).length)=true from decide_eq_true (by rw [aN];exact hn),hg]
  refine Wk ?_
  refine⟨Unit,fun _=>True,fun _=>⟨[(8,⟨[],true,.ptr 0 0 0⟩),(62,⟨[],true,.lst 3 false (bU (iQ E i false m) l)⟩)],[(0,.box [.int .i64 0,bJ,.int .i64 0,.int .i64 0])],1⟩,?_,fun _ _=>?_⟩
  ·refine Wk ?_
   refine⟨(),trivial,?_⟩
   have hup2:(bU E l).set n [.int .i64 (i:Int),.int .i64 (E i).1,.int .i64 ((gP false (E i).2 m:Nat):Int)]=bU (iQ E i false m) l:=by
    rw [iQ,←hup,pX,cR]
   refine cO [some 1] rfl rfl ?_ rfl ?_ rfl ?_
   repeat' (first |exact trivial |rfl |exact .inl rfl |exact .inr rfl |exact id |exact(fun h=>Bool.noConfusion h)|refine And.intro ?_ ?_)
   ·show 0+l.length≤((bU E l).set n [.int .i64 (i:Int),.int .i64 (E i).1,.int .i64 ((gP false (E i).2 m:Nat):Int)]).length
    rw [zC,aN];omega
   ·exact fP hup2 (by rw [zC,aN])
  refine dF k219 ?_
  try subst hk
  exact Lf
theorem aTP {E:cI} (hE:bK E)(hs:tJ E)(i:Nat)(hi:i<16)(m:Nat)(hm:m=1∨m=2∨m=4)(hv:0< (E i).1):
 aQ Tryz.prog 319 [] [.agg (can E),.int .i64 (i:Int),.int .i64 (m:Int)] (.tup [.agg (can (iQ E i true m)),.int .i64 0]) []:=by
 have hm8:m<8:=by omega
 have hE':=hE.mrk (i:=i) (on:=true) hm8 hv
 have k350:=bAL hE hs i hi m hm true hv
 obtain⟨k0,k1,k2,k3,e⟩:=bC hE
 obtain⟨q0,q1,q2,q3,e'⟩:=bC hE'
 rw [e,e'] at k350
 rw [e,e']
 refine aF (ob0:= []) [] Tryz.func319 rfl rfl rfl rfl ?_
 refine dF k350 ?_
 try subst hk
 exact Lf
theorem aTQ {E:cI} (hE:bK E)(hs:tJ E)(i:Nat)(hi:i<16)(m:Nat)(hm:m=1∨m=2∨m=4)(hv:0< (E i).1):
 aQ Tryz.prog 320 [] [.agg (can E),.int .i64 (i:Int),.int .i64 (m:Int)] (.tup [.agg (can (iQ E i false m)),.int .i64 0]) []:=by
 have hm8:m<8:=by omega
 have hE':=hE.mrk (i:=i) (on:=false) hm8 hv
 have k350:=bAL hE hs i hi m hm false hv
 obtain⟨k0,k1,k2,k3,e⟩:=bC hE
 obtain⟨q0,q1,q2,q3,e'⟩:=bC hE'
 rw [e,e'] at k350
 rw [e,e']
 refine aF (ob0:= []) [] Tryz.func320 rfl rfl rfl rfl ?_
 refine dF k350 ?_
 try subst hk
 exact Lf
end Go.Proofs.YtmhapcbjjpadnaaGreat
set_option maxRecDepth 40000
namespace Go.Proofs.YtmhapcbjjpadnaaGreat
open Go Go.Sk Go.RowKit
end Go.Proofs.YtmhapcbjjpadnaaGreat
