/- Caches. -/
import Derived.Test.YtmhapcbjjpadnaaGreatGAo
set_option linter.all false
set_option maxRecDepth 40000
open Bool renaming cond_false_right→zC,cond_true_left→zD,not_eq_false'→zE,not_eq_true'→zG,not_not→zK
open Int renaming toNat_natCast→zH
open List renaming getD_eq_getElem?_getD→zA,length_append→zF,length_singleton→zI,length_set→zJ,getElem?_eq_getElem→zL,append_nil→zN,length_filter_le→zO,ne_nil_of_mem→zQ,take_length→zR
open Nat renaming not_lt_zero→zM,pow_le_pow_right→zP,zero_le→zS
namespace Go.Proofs.YtmhapcbjjpadnaaGreat
open Go Go.Sk Go.RowKit
def Sup(E:dA):Prop:=∀j,16<=j->(E j).1=0
def mxE(E:dA):Nat->Nat
 |0=>0
 |n+1=>bif (E n).1==0 then mxE E n else n
theorem lS(E:dA):∀n,(∀j,j<n->(E j).1≠0->j<=mxE E n)/\(mxE E n=0\/(mxE E n<n/\(E (mxE E n)).1≠0))
 |0=>⟨λj h=>absurd h (zM j),.inl rfl⟩
 |n+1=>by
  obtain⟨z,h2⟩:=lS E n;rw [mxE]
  cases f:((E n).1==0) with
  |true=>
   have f:(E n).1=0:=by simpa using f
   simp only [zct];refine⟨λj B m=>?_,h2.elim .inl λh=>.inr ⟨by omega,h.2⟩⟩
   by_cases e:j=n
   ·subst e;exact absurd f m
   ·exact z j (by omega) m
  |false=>
   have f:(E n).1≠0:=by simpa using f
   simp only [zcf];exact⟨λj B _=>by omega,.inr ⟨by omega,f⟩⟩
def aFR(l:List Nat):Nat:=l.foldl max 0
theorem aTN(l:List Nat)(x:Nat):aFR (l++ [x])=max (aFR l) x:=by simp [aFR,List.foldl_append]
theorem aI9(l:List Nat):(∀j∈l,j<=aFR l)/\(aFR l=0\/aFR l∈l):=by
 have z:∀(l:List Nat) (m:Nat),(m<=l.foldl max m/\∀j∈l,j<=l.foldl max m)/\(l.foldl max m=m\/l.foldl max m∈l):=by
  intro l
  induction l with
  |nil=>exact λm=>⟨⟨Nat.le_refl _,by simp⟩,.inl rfl⟩
  |cons x r C=>
   intro m;obtain⟨⟨D,h2⟩,f⟩:=C (max m x);rw [List.foldl_cons];refine⟨⟨by omega,λj B=>?_⟩,?_⟩
   ·rcases List.mem_cons.1 B with rfl |B
    ·omega
    ·exact h2 j B
   ·rcases f with f |f
    ·rw [f]
     by_cases e:m<=x
     ·right;rw [Nat.max_eq_right e];exact List.mem_cons_self
     ·left;exact Nat.max_eq_left (by omega)
    ·exact .inr (List.mem_cons_of_mem _ f)
 exact⟨(z l 0).1.2,(z l 0).2⟩
theorem bB6 {E:dA} {l:List Nat} (m:∀j∈l,j<16)(h2:∀j,j<16->(j∈l↔(E j).1≠0)):aFR l=mxE E 16:=by
 obtain⟨z,e⟩:=aI9 l;obtain⟨B,f⟩:=lS E 16;apply Nat.le_antisymm
 ·rcases e with e |e
  ·omega
  ·exact B _ (m _ e) ((h2 _ (m _ e)).1 e)
 ·rcases f with f |f
  ·omega
  ·exact z _ ((h2 _ f.1).2 f.2)
def hgt(E:dA):Nat:=htE (mxE E 16)
def can(E:dA):List V:=.int .i64 (hgt E:Int)::sub E (hgt E) 0
theorem oV(i:Nat):htE i<=2:=by unfold htE;cases Nat.beq i 0 <;> cases Nat.blt i 4 <;> decide
theorem aQM {i:Nat} (h:i<16):i<4^htE i:=by
 have e:∀i:Fin 16,i.val<4^htE i.val:=by decide
 exact e ⟨i,h⟩
theorem aBU(E:dA):mxE E 16<16:=by rcases(lS E 16).2 with h |h <;> omega
theorem aAA {E:dA} (z:Sup E):∀j,4^hgt E<=j->(E j).1=0:=λj m=>by
 by_cases e:(E j).1=0
 ·exact e
 ·by_cases f:j<16
  ·have :=(lS E 16).1 j f e;have :=aQM (aBU E);unfold hgt at m;omega
  ·exact z j (by omega)
theorem aHZ {E:dA} {m:Nat} (hm:(E m).1≠0):∀n,m<n->(∀j,m<j->j<n->(E j).1=0)->∃r,bL E 0 n=r++ [m]
 |0,h,_=>absurd h (zM m)
 |n+1,h,f=>by
  rw [bL,Nat.zero_add]
  by_cases e:n=m
  ·subst e;exact⟨bL E 0 n,by rw [show((E n).1==0)=false from zbn.2 hm];rfl⟩
  ·rw [show((E n).1==0)=true from zbe.2 (f n (by omega) (by omega)),zct,zN];exact aHZ hm n (by omega) λj z h2=>f j z (by omega)
theorem aDW {E:dA} (J:Sup E):aYT (bL E 0 (4^hgt E)) (hgt E):=by
 obtain⟨D,e⟩:=lS E 16;have G:=aQM (aBU E)
 by_cases f:(E (mxE E 16)).1=0
 ·have C:mxE E 16=0:=by rcases e with e |e;exact e;exact absurd f e.2
  have F:hgt E=0:=by unfold hgt;rw [C];rfl
  rw [C] at f
  have m:gI E 0 (4^0)=true:=jI.2 λi M=>by
   obtain rfl:i=0:=by have :(4:Nat)^0=1:=rfl;omega
   exact f
  rw [F,uA m];exact rfl
 ·obtain⟨r,H⟩:=aHZ f (4^hgt E) G λj K h2=>by
   by_cases z:(E j).1=0
   ·exact z
   ·by_cases h4:j<16
    ·have :=D j h4 z;omega
    ·exact J j (by omega)
  rw [H];have B:aFL (r++ [mxE E 16])=mxE E 16:=by simp [aFL]
  cases r with
  |nil=>exact congrArg htE B
  |cons x r=>exact congrArg htE B
theorem bEL {E:dA} (D:bK E)(l:List Nat)(t:Bool)(B:∀j∈l,j<16)(h2:∀j,j<16->(j∈l↔(E j).1≠0))(K:l.length<=100000):aN Tryz.prog 219 [] [.lst 3 t (bI E l)] (.agg (can E)) []:=by
 have z:aN Tryz.prog 295 [] [.int .i64 (mxE E 16:Nat)] (.int .i64 (hgt E:Int)) []:=bEV (mxE E 16) (aBU E);have J:=oV (mxE E 16);have N:4^hgt E<=16:=zP (n:=4) (by decide) J;have f:=bMX D (hgt E) 0 l t (by unfold hgt;omega) (by omega) (λj _ F=>h2 j (by omega)) (λj F=>by have :=B j F;omega) K;have C:=bB6 B h2
 have M:∀k,aFR (l.take k)<16:=λk=>by
  rcases(aI9 (l.take k)).2 with h |h
  ·omega
  ·exact B _ (List.mem_of_mem_take h)
 unfold can;obtain⟨k0,k1,k2,k3,e⟩:=kQ D (hgt E) 0;rw [e] at f⊢;refine cG Tryz.func219 ?_;refine Wk ?_;refine⟨Nat,λk=>k<=l.length,λk=>⟨[(0,⟨[],true,.lst 3 t (bI E l)⟩),(2,⟨[],true,.ptr 0 0 0⟩),(3,⟨[],true,.int .i64 (aFR (l.take k):Nat)⟩),(4,⟨[],true,.int .i64 (k:Int)⟩)],[(0,.box [.int .i64 0,bV,.int .i64 0,.int .i64 0])],1⟩,λk=>l.length-k,⟨0,zS _,?_⟩,λk H=>?_⟩
 ·exact Vw [some 0]
 dsimp only at H⊢;refine Wk ?_;rw [aM];refine aC (λm=>?_) (λm=>?_)<;> try simp only [zD,zC,zG,zE,zK] at m
 ·have m:k<l.length:=by simp at m;omega
  have G:=aTN (l.take k) (l.getD k 0);rw [<-aD5 0 m] at G;refine Wk ?_;refine aG (⟨rfl,by omega,by rw [aM];omega⟩) ?_;rw [zH,lB E l k m];refine Wk ?_;rw [show max ((aFR (l.take k):Nat):Int) ((l.getD k 0:Nat):Int)=((max (aFR (l.take k)) (l.getD k 0):Nat):Int) by omega,<-G,dW (by omega)];refine⟨k+1,by show k+1<=_;omega,?_,by show l.length- (k+1)<l.length-k;omega⟩;exact Vw [some 0]
 have m:k=l.length:=by simp at m;omega
 subst m;rw [zR,C];refine Wk2 z f ?_;exact Lf
theorem cB {E:dA} (f:bK E):∃k n xs v,can E=[.int .i64 (hgt E:Int),.lst k n xs,.int .i64 v,.int .i64 (nS E 0 (4^hgt E):Nat)]:=by obtain⟨k0,k1,k2,k3,e⟩:=kQ f (hgt E) 0;exact⟨k0,k1,k2,k3,by rw [can,e]⟩
theorem aXL {E:dA} (e:bK E)(f:Sup E):aN Tryz.prog 218 [] [.agg (can E)] (.bool true) []:=aXK e _ (oV _) (aDW f)
theorem aQO {E:dA} {m:Nat} (f:∀j,m<=j->(E j).1=0):∀ {n},m<=n->bL E 0 n=bL E 0 m
 |0,h=>by obtain rfl:m=0:=by omega
          rfl
 |n+1,h=>by
  by_cases e:m=n+1
  ·subst e;rfl
  ·rw [bL,Nat.zero_add,show((E n).1==0)=true from zbe.2 (f n (by omega)),zct,zN,aQO f (by omega)]
theorem aJH {E:dA} (e:Sup E):bL E 0 (4^hgt E)=bL E 0 16:=(aQO (aAA e) (zP (n:=4) (by decide) (oV _))).symm
theorem bHN {E:dA} (f:bK E)(e:Sup E):aN Tryz.prog 216 [] [.agg (can E)] (aTK E (bL E 0 16)) []:=by
 have :=bEJ f (hgt E) (oV _) (aDW e)
 rwa [aJH e] at this
theorem bHP {E:dA} (f:bK E)(e:Sup E)(j:bL E 0 16≠ []):aN Tryz.prog 216 [] [.agg (can E)] (.sl 0 0 (bL E 0 16).length) [.row 3 (bI E (bL E 0 16))]:=by
 have :=bHO f (hgt E) (oV _) (aDW e) (by
  cases h:gI E 0 (4^hgt E) with
  |false=>rfl
  |true=>exact absurd (uA h) (by rw [aJH e];exact j))
 rwa [aJH e] at this
theorem aX7 {E:dA} (f:bK E)(e:Sup E)(i:Int):aN Tryz.prog 117 [] [.agg (can E),.int .i64 i] (.int .i64 (aC9 E i)) []:=bLF f _ (oV _) (aDW e) (aAA e) i
def dX(E:dA)(i:Nat)(p:Int×Nat):dA:=λj=>bif Nat.beq j i then p else E j
theorem fN(E:dA)(i:Nat)(p:Int×Nat):dX E i p i=p:=by simp [dX]
theorem eL {E:dA} {i j:Nat} {p:Int×Nat} (h:j≠i):dX E i p j=E j:=by unfold dX;rw [show Nat.beq j i=false from Bool.eq_false_iff.2 λe=>h (Nat.eq_of_beq_eq_true e)];rfl
theorem bK.set {E:dA} (h:bK E) {i:Nat} {p:Int×Nat} (f:p.2<8)(h2:p.1<=0->p.2=0):bK (dX E i p):=by
 refine⟨λj=>?_,λj=>?_⟩<;> by_cases e:j=i
 ·subst e;rw [fN];exact f
 ·rw [eL e];exact h.small j
 ·subst e;rw [fN];exact h2
 ·rw [eL e];exact h.none j
theorem Sup.set {E:dA} (h:Sup E) {i:Nat} (hi:i<16)(p:Int×Nat):Sup (dX E i p):=λj e=>by rw [eL (by omega)];exact h j e
theorem aTL(E:dA)(l:List Nat):∃k t,aTK E l=.lst k t (bI E l)/\(0<l.length->k=3):=by
 cases l with
 |nil=>exact⟨0,true,rfl,λh=>absurd h (by decide)⟩
 |cons x r=>exact⟨3,false,rfl,λ_=>rfl⟩
theorem aU9 {E:dA} {i:Nat} {p:Int×Nat} {l:List Nat} (h:∀j∈l,j≠i):bI (dX E i p) l=bI E l:=by unfold bI;exact List.map_congr_left λj e=>by unfold pE;rw [eL (h j e)]
def neB(i j:Nat):Bool:=(j:Int) != (i:Int)
theorem aQZ {i j:Nat} :neB i j=true↔j≠i:=by unfold neB;rw [bne_iff_ne];omega
theorem aX8 {E:dA} (W:bK E)(hs:Sup E)(i:Nat)(hi:i<16)(v:Int):aN Tryz.prog 118 [] [.agg (can E),.int .i64 (i:Int),.int .i64 v] (.tup [.agg (can (dX E i (v,0))),.int .i64 0]) []:=by
 have D:=aXL W hs;have z:=bHN W hs;have Q:bK (dX E i (v,0)):=W.set (Nat.zero_lt_succ _) (λ_=>rfl);have G:=lP E 0 16;have C:∀j∈bL E 0 16,j<16:=λj f=>by have :=kM.1 f;omega
 have m:∀j,j<16->(j∈bL E 0 16↔(E j).1≠0):=λj f=>by rw [kM];exact⟨λh=>h.2.2,λh=>⟨by omega,by omega,h⟩⟩
 have H:=λL Y h2 hl=>bEL Q L false Y h2 hl;obtain⟨k0,k1,k2,k3,e⟩:=cB W;obtain⟨q0,q1,q2,q3,e'⟩:=cB Q;obtain⟨kk,tt,hf,T⟩:=aTL E (bL E 0 16);rw [hf,e] at z;rw [e] at D⊢;rw [e'] at H⊢;generalize bL E 0 16=l at G C m z T;clear hf;refine eX (ob0:= []) [.c 45] Tryz.func118 rfl rfl rfl rfl ?_;refine Wk2 D z ?_;rw [show decide ((i:Int)<0)=false from zdf (by omega),show decide ((255:Int)< (i:Int))=false from zdf (by omega)]
 refine Wk2 D z ?_
 refine⟨Nat,λk=>k<=l.length,λk=>⟨[(1,⟨[],true,.int .i64 (i:Int)⟩),(2,⟨[],true,.int .i64 v⟩),(6,⟨[],true,.ptr 0 0 0⟩),(8,⟨[],true,.lst kk tt (bI E l)⟩),(9,⟨[],true,.sl 1 0 ((l.take k).filter (neB i)).length⟩),(10,⟨[],true,.int .i64 (k:Int)⟩)],
  [(0,.box [.int .i64 0,bV,.int .i64 0,.int .i64 0]),(1,.row 3 (bI E ((l.take k).filter (neB i))))],2⟩,λk=>l.length-k,⟨0,zS _,?_⟩,λk hI=>?_⟩
 ·exact Vw [some 1,none]
 dsimp only at hI⊢;have aa:((l.take k).filter (neB i)).length<=16:=by have :=zO (neB i) (l.take k);have :=List.length_take_le k l;omega
 refine Wk ?_;rw [aM];refine aC (λJ=>?_) (λJ=>?_)<;> try simp only [zD,zC,zG,zE,zK] at J
 ·have J:k<l.length:=by simp at J;omega
  obtain rfl:=T (by omega);have B:=sO (neB i) l k 0 J;have hg:=lB E l k J;have R:(((l.getD k 0:Nat):Int) != (i:Int))=neB i (l.getD k 0):=rfl;generalize l.getD k 0=j at B hg R;generalize(l.take k).filter (neB i)=F at B aa;refine Wk ?_;refine aG (⟨rfl,by omega,by rw [aM];omega⟩) ?_;rw [zH,hg];refine Wk ?_;rw [R];refine aC (λb2=>?_) (λb2=>?_)<;> try simp only [zD,zC,zG,zE,zK] at b2
  ·rw [b2,zct] at B;refine Wk ?_;refine aG (⟨rfl,by omega,by rw [aM];omega⟩) ?_;rw [zH,hg];refine Wk ?_;refine aG (aM E F).symm (cC (by rw [aM];show((F.length+1:Nat):Int)<=_;omega) (by rw [aM];show(F.length+1)*24<=_;omega) ?_);refine Wk ?_;rw [dW (by omega)];refine⟨k+1,by show k+1<=_;omega,?_,by show l.length- (k+1)<l.length-k;omega⟩;dsimp only;rw [B];refine bS [some 0,some 3] rfl rfl ?_ rfl ?_ rfl ?_
   repeat' (first |exact trivial |rfl |exact .inl rfl |exact .inr rfl |exact id |exact zbc |apply And.intro)
   ·show bI E F++ [pE E j]=_;simp [bI]
   ·show(bI E F).length+1=_;rw [aM,zF];rfl
  rw [b2,zcf] at B;refine Wk ?_;rw [dW (by omega)];refine⟨k+1,by show k+1<=_;omega,?_,by show l.length- (k+1)<l.length-k;omega⟩;dsimp only;rw [B];exact Vw [some 0,some 1]
 have J:k=l.length:=by simp at J;omega
 subst J;rw [zR];have K:∀j∈l.filter (neB i),j∈l/\j≠i:=λj f=>by rw [List.mem_filter] at f;exact⟨f.1,aQZ.1 f.2⟩
 have M:∀j,j∈l->j≠i->j∈l.filter (neB i):=λj Y h2=>List.mem_filter.2 ⟨Y,aQZ.2 h2⟩;have N:bI (dX E i (v,0)) (l.filter (neB i))=bI E (l.filter (neB i)):=aU9 λj f=>(K j f).2;have Z:(l.filter (neB i)).length<=16:=Nat.le_trans (zO _ _) G;generalize l.filter (neB i)=F at K M N Z;refine Wk ?_
 refine⟨List Nat,λL=>((∀j∈L,j<16)/\∀j,j<16->(j∈L↔(dX E i (v,0) j).1≠0))/\L.length<=100000,λL=>⟨[(6,⟨[],true,.ptr 0 0 0⟩),(9,⟨[],true,.lst 3 false (bI (dX E i (v,0)) L)⟩)],[(0,.box [.int .i64 0,bV,.int .i64 0,.int .i64 0])],1⟩,?_,λL hL=>?_⟩
 ·refine Wk ?_;refine aC (λO=>?_) (λO=>?_)<;> try simp only [zD,zC,zG,zE,zK] at O
  ·have O:v≠0:=by simpa using O
   refine Wk ?_;refine aG (aM E F).symm (cC (by rw [aM];show((F.length+1:Nat):Int)<=_;omega) (by rw [aM];show(F.length+1)*24<=_;omega) ?_);refine Wk ?_;refine⟨F++ [i],⟨⟨λj f=>?_,λj f=>?_⟩,by rw [zF,zI];omega⟩,?_⟩
   ·rcases List.mem_append.1 f with f |f
    ·exact C j (K j f).1
    ·obtain rfl:=List.mem_singleton.1 f;exact hi
   ·by_cases e:j=i
    ·subst e;rw [fN];exact⟨λ_=>O,λ_=>List.mem_append_right _ (List.mem_singleton.2 rfl)⟩
    ·rw [eL e,<-m j f,List.mem_append,List.mem_singleton];exact⟨λh=>(K j (h.resolve_right e)).1,λh=>.inl (M j h e)⟩
   have hr:bI E F++ [[V.int .i64 (i:Int),V.int .i64 v,V.int .i64 0]]=bI (dX E i (v,0)) (F++ [i]):=by rw [<-N];simp [bI,pE,fN]
   refine bS [some 0] rfl rfl ?_ rfl ?_ rfl ?_
   repeat' (first |exact trivial |rfl |exact .inl rfl |exact .inr rfl |exact id |exact zbc |apply And.intro)
   ·show 0+((bI E F).length+1)<=(bI E F++ [[V.int .i64 (i:Int),V.int .i64 v,V.int .i64 0]]).length;rw [zF,zI];omega
   ·exact cM hr (zF ..)
  have O:v=0:=by simpa using O
  refine Wk ?_;refine⟨F,⟨⟨λj f=>C j (K j f).1,λj f=>?_⟩,by omega⟩,?_⟩
  ·by_cases e:j=i
   ·subst e;rw [fN];exact⟨λh=>absurd rfl (K j h).2,λh=>absurd O h⟩
   ·rw [eL e,<-m j f];exact⟨λh=>(K j h).1,λh=>M j h e⟩
  dsimp only;rw [N];refine bS [some 0] rfl rfl ?_ rfl ?_ rfl ?_
  repeat' (first |exact trivial |rfl |exact .inl rfl |exact .inr rfl |exact id |exact zbc |apply And.intro)
  ·rw [aM];omega
  ·exact cM rfl (aM _ _)
 refine cS (H L hL.1.1 hL.1.2 hL.2) ?_;exact Lf
theorem bNK(m:Nat)(hm:m=1\/m=2\/m=4):aN Tryz.prog 361 [] [.int .i64 (m:Int)] (.bool true) []:=by
 rcases hm with rfl |rfl |rfl
 ·exact run_eq E1 40 (by kernel_rfl)
 ·exact run_eq E1 40 (by kernel_rfl)
 ·exact run_eq E1 40 (by kernel_rfl)
def sF(on:Bool)(x m:Nat):Nat:=bif on then x ||| m else x &&& (7 ^^^ m)
theorem aVC {on:Bool} {x m:Nat} (f:x<8)(hm:m<8):sF on x m<8:=by
 have e:∀on:Bool,∀a b:Fin 8,sF on a.val b.val<8:=by decide
 exact e on ⟨x,f⟩ ⟨m,hm⟩
theorem mJ {x y:Nat} (f:x<8)(j:y<8):gW .andNot .i64 (x:Int) (y:Int)=((sF false x y:Nat):Int):=by
 have e:∀a:Fin 8,∀b:Fin 8,gW .andNot .i64 (a.val:Int) (b.val:Int)=((sF false a.val b.val:Nat):Int):=by decide
 exact e ⟨x,f⟩ ⟨y,j⟩
def sZ(E:dA)(i:Nat)(on:Bool)(m:Nat):dA:=dX E i ((E i).1,sF on (E i).2 m)
theorem bK.mrk {E:dA} (f:bK E) {i m:Nat} {on:Bool} (e:m<8)(hv:0< (E i).1):bK (sZ E i on m):=by have j:=aVC (on:=on) (f.small i) e;exact f.set (p:=((E i).1,sF on (E i).2 m)) j (λh=>absurd h (by show ¬(E i).1<=0;omega))
theorem bBL {i:Nat} {l:List Nat} (h:i∈l):∃n:Nat,lV (i:Int) l 0=n/\n<l.length/\l.getD n 0=i:=by obtain⟨j,h2⟩:=aGA (i:=(i:Int)) (l:=l) (k:=0);have f:0<=lV (i:Int) l 0:=Int.not_lt.1 λz=>h2 z i h rfl;obtain⟨-,m,e⟩:=j f;rw [Nat.sub_zero] at e;exact⟨(lV (i:Int) l 0).toNat,by omega,by omega,by omega⟩
theorem aUA {E:dA} {i:Nat} {p:Int×Nat} {l:List Nat} {n:Nat} (j:n<l.length)(hi:l.getD n 0=i)(F:∀k,k<l.length->l.getD k 0=i->k=n):
 (bI E l).set n (pE (dX E i p) i)=bI (dX E i p) l:=by
 apply List.ext_getElem?;intro k;simp only [bI,List.getElem?_set,List.getElem?_map,List.length_map];have f:∀x,l[k]? =some x->k<l.length/\l.getD k 0=x:=λx z=>⟨(List.getElem?_eq_some_iff.1 z).1,by simp [zA,z]⟩
 by_cases e:n=k
 ·subst e;rw [if_pos rfl,if_pos j];have :l[n]? =some i:=by rw [zL j,<-hi];simp [zA,j]
  rw [this];rfl
 ·rw [if_neg e]
  cases D:l[k]? with
  |none=>rfl
  |some x=> obtain⟨B,C⟩:=f x D;have m:x≠i:=λh=>e (F k B (by rw [C];exact h)).symm;show some (pE E x)=some (pE (dX E i p) x);unfold pE;rw [eL m]
theorem aFC(E:dA)(a:Nat):∀n (k f:Nat),k< (bL E a n).length->f< (bL E a n).length->(bL E a n).getD k 0=(bL E a n).getD f 0->k=f
 |0,k,_,h,_,_=>absurd h (zM k)
 |n+1,k,f,h,B,e=>by
  have F:∀j,j< (bL E a n).length->(bL E a n).getD j 0<a+n:=λj C=>by
   have :(bL E a n).getD j 0∈bL E a n:=by simp only [zA,C,zL,Option.getD_some];exact List.getElem_mem C
   exact(kM.1 this).2.1
  rw [bL] at h B e
  cases G:((E (a+n)).1==0) with
  |true=>simp only [G,zct,zN] at h B e;exact aFC E a n k f h B e
  |false=>
   simp only [G,zcf,zF,zI] at h B e;have z:∀j,j< (bL E a n).length->(bL E a n++ [a+n]).getD j 0=(bL E a n).getD j 0:=λj C=>by simp [zA,List.getElem?_append_left C]
   have D:(bL E a n++ [a+n]).getD (bL E a n).length 0=a+n:=by simp [zA]
   by_cases c:k< (bL E a n).length <;> by_cases m:f< (bL E a n).length
   ·rw [z k c,z f m] at e;exact aFC E a n k f c m e
   ·obtain rfl:f=(bL E a n).length:=by omega
    rw [z k c,D] at e;have :=F k c;omega
   ·obtain rfl:k=(bL E a n).length:=by omega
    rw [z f m,D] at e;have :=F f m;omega
   ·omega
theorem bF2 {E:dA} (N:bK E)(Y:Sup E)(i:Nat)(hi:i<16)(m:Nat)(hm:m=1\/m=2\/m=4)(on:Bool)(hv:0< (E i).1):
 aN Tryz.prog 350 [] [.agg (can E),.int .i64 (i:Int),.int .i64 (m:Int),.bool on] (.tup [.agg (can (sZ E i on m)),.int .i64 0]) []:=by
 have K:m<8:=by omega
 have H:=bNK m hm;have D:=aXL N Y;have F:i∈bL E 0 16:=kM.2 ⟨by omega,by omega,by omega⟩;have C:=bHP N Y (zQ F);have O:=N.mrk (i:=i) (on:=on) K hv;have Q:=lP E 0 16
 have z:=bEL O (bL E 0 16) false (λj W=>by have :=kM.1 W;omega) (λj W=>by
  unfold sZ
  by_cases e:j=i
  ·subst e;rw [fN];exact⟨λ_=>by show(E j).1≠0;omega,λ_=>F⟩
  ·rw [eL e,kM];exact⟨λh=>h.2.2,λh=>⟨by omega,by omega,h⟩⟩) (by omega)
 have f:=bEK E (bL E 0 16) (i:Int) (by omega);rw [uC (zQ F)] at f;obtain⟨n,T,G,J⟩:=bBL F;have M:=aUA (E:=E) (p:=((E i).1,sF on (E i).2 m)) G J (λk R e=>aFC E 0 16 k n R G (by rw [e,J]));have hg:=lB E (bL E 0 16) n G;rw [J] at hg;rw [T] at f;have Z:=N.small i;obtain⟨k0,k1,k2,k3,e⟩:=cB N;obtain⟨q0,q1,q2,q3,e'⟩:=cB O;rw [e] at C;rw [e] at D⊢;rw [e'] at z⊢;generalize bL E 0 16=l at Q C f z G M hg;rw [<-cM (X:=bI E l) rfl (aM E l)] at f
 refine eX (ob0:= []) [.s 62] Tryz.func350 rfl rfl rfl rfl ?_;refine Wk2 D H ?_;rw [show decide ((i:Int)<0)=false from zdf (by omega),show decide ((255:Int)< (i:Int))=false from zdf (by omega)];refine Wk2 D H ?_;refine .inr ⟨λ_=>⟨[],_,_,_,C,trivial,rfl,rfl,rfl,?_⟩,(by intro h;cases h)⟩
 refine Wk ?_;refine .inl ⟨_,λ_=>⟨?_,f⟩,.inr rfl,?_⟩
 ·intro v hv;rcases List.mem_cons.1 hv with rfl |hv
  ·show 0+l.length<=(bI E l).length;rw [aM];omega
  ·obtain rfl:=List.mem_singleton.1 hv;exact trivial
 refine Wk ?_;rw [show decide (0<=(n:Int)/\(n:Int)< (l.length:Int))=true from zdt ⟨by omega,by omega⟩];refine Wk ?_;rw [show 0+(n:Int).toNat=n by omega,show decide (n< (bI E l).length)=true from zdt (by rw [aM];exact G),hg];refine Wk ?_;rw [show decide ((E i).1<0)=false from zdf (by omega),show decide ((n:Int)<0)=false from zdf (by omega)];refine Wk ?_
 cases on with
 |true=>
  refine Wk ?_;rw [show decide (0<=(n:Int)/\(n:Int)< (l.length:Int))=true from zdt ⟨by omega,by omega⟩];refine Wk ?_;rw [show 0+(n:Int).toNat=n by omega,show decide (n< (bI E l).length)=true from zdt (by rw [aM];exact G),hg];refine Wk ?_;rw [iJ Z K];refine Wk ?_;rw [show decide (0<=(n:Int)/\(n:Int)< (l.length:Int))=true from zdt ⟨by omega,by omega⟩];refine Wk ?_
  rw [show 0+(n:Int).toNat=n by omega,show decide (n< (bI E l).length)=true from zdt (by rw [aM];exact G),hg];refine Wk ?_;refine⟨Unit,λ_=>True,λ_=>⟨[(8,⟨[],true,.ptr 0 0 0⟩),(62,⟨[],true,.lst 3 false (bI (sZ E i true m) l)⟩)],[(0,.box [.int .i64 0,bV,.int .i64 0,.int .i64 0])],1⟩,?_,λ_ _=>?_⟩
  ·refine Wk ?_;refine⟨(),trivial,?_⟩;have B:(bI E l).set n [.int .i64 (i:Int),.int .i64 (E i).1,.int .i64 ((sF true (E i).2 m:Nat):Int)]=bI (sZ E i true m) l:=by rw [sZ,<-M,pE,fN]
   refine bS [some 1] rfl rfl ?_ rfl ?_ rfl ?_
   repeat' (first |exact trivial |rfl |exact .inl rfl |exact .inr rfl |exact id |exact zbc |apply And.intro)
   ·show 0+l.length<=((bI E l).set n [.int .i64 (i:Int),.int .i64 (E i).1,.int .i64 ((sF true (E i).2 m:Nat):Int)]).length;rw [zJ,aM];omega
   ·exact cM B (by rw [zJ,aM])
  refine cS z ?_
  try subst R
  exact Lf
 |false=>
  refine Wk ?_;rw [show decide (0<=(n:Int)/\(n:Int)< (l.length:Int))=true from zdt ⟨by omega,by omega⟩];refine Wk ?_;rw [show 0+(n:Int).toNat=n by omega,show decide (n< (bI E l).length)=true from zdt (by rw [aM];exact G),hg];refine Wk ?_;rw [mJ Z K];refine Wk ?_;rw [show decide (0<=(n:Int)/\(n:Int)< (l.length:Int))=true from zdt ⟨by omega,by omega⟩];refine Wk ?_
  rw [show 0+(n:Int).toNat=n by omega,show decide (n< (bI E l).length)=true from zdt (by rw [aM];exact G),hg];refine Wk ?_;refine⟨Unit,λ_=>True,λ_=>⟨[(8,⟨[],true,.ptr 0 0 0⟩),(62,⟨[],true,.lst 3 false (bI (sZ E i false m) l)⟩)],[(0,.box [.int .i64 0,bV,.int .i64 0,.int .i64 0])],1⟩,?_,λ_ _=>?_⟩
  ·refine Wk ?_;refine⟨(),trivial,?_⟩;have B:(bI E l).set n [.int .i64 (i:Int),.int .i64 (E i).1,.int .i64 ((sF false (E i).2 m:Nat):Int)]=bI (sZ E i false m) l:=by rw [sZ,<-M,pE,fN]
   refine bS [some 1] rfl rfl ?_ rfl ?_ rfl ?_
   repeat' (first |exact trivial |rfl |exact .inl rfl |exact .inr rfl |exact id |exact zbc |apply And.intro)
   ·show 0+l.length<=((bI E l).set n [.int .i64 (i:Int),.int .i64 (E i).1,.int .i64 ((sF false (E i).2 m:Nat):Int)]).length;rw [zJ,aM];omega
   ·exact cM B (by rw [zJ,aM])
  refine cS z ?_
  try subst R
  exact Lf
theorem bNA {E:dA} (j:bK E)(D:Sup E)(i:Nat)(hi:i<16)(m:Nat)(hm:m=1\/m=2\/m=4)(hv:0< (E i).1):
 aN Tryz.prog 319 [] [.agg (can E),.int .i64 (i:Int),.int .i64 (m:Int)] (.tup [.agg (can (sZ E i true m)),.int .i64 0]) []:=by
 have B:m<8:=by omega
 have z:=j.mrk (i:=i) (on:=true) B hv;have f:=bF2 j D i hi m hm true hv;obtain⟨k0,k1,k2,k3,e⟩:=cB j;obtain⟨F,q1,q2,G,C⟩:=cB z;rw [e,C] at f;rw [e,C];refine cG Tryz.func319 ?_;refine cS f ?_;exact Lf
theorem bNB {E:dA} (j:bK E)(D:Sup E)(i:Nat)(hi:i<16)(m:Nat)(hm:m=1\/m=2\/m=4)(hv:0< (E i).1):
 aN Tryz.prog 320 [] [.agg (can E),.int .i64 (i:Int),.int .i64 (m:Int)] (.tup [.agg (can (sZ E i false m)),.int .i64 0]) []:=by
 have B:m<8:=by omega
 have z:=j.mrk (i:=i) (on:=false) B hv;have f:=bF2 j D i hi m hm false hv;obtain⟨k0,k1,k2,k3,e⟩:=cB j;obtain⟨F,q1,q2,G,C⟩:=cB z;rw [e,C] at f;rw [e,C];refine cG Tryz.func320 ?_;refine cS f ?_;exact Lf
theorem bM2 {E:dA} (z:bK E):∀(h a:Nat),aN Tryz.prog 199 [] [.agg (sub E h a),.agg (sub E h a)] (.bool true) []:=by
 intro h
 induction h with
 |zero=>
  intro a;rw [sub];generalize(E a).1=v;generalize((E a).2:Int)=m;refine cG Tryz.func199 ?_;refine Wk ?_;rw [show(v != v)=false from bne_self_eq_false v,show(m != m)=false from bne_self_eq_false m];refine Wk ?_;refine⟨Unit,λ_=>True,λ_=>⟨[(2,⟨[],true,.ptr 0 0 0⟩),(3,⟨[],true,.ptr 1 0 0⟩),(5,⟨[],true,.int .i64 0⟩)],[(0,.box [bV,.int .i64 v,.int .i64 m]),(1,.box [bV,.int .i64 v,.int .i64 m])],2⟩,λ_=>0,⟨(),trivial,?_⟩,λ_ _=>?_⟩
  ·exact Vw [some 0,some 1]
  refine Wk ?_;exact Lf
 |succ h D=>
  intro a
  cases B:gI E a (4^(h+1)) with
  |true=> rw [fD z B];exact aYN E1 40 (by kernel_rfl)
  |false=>
   rw [iV B];generalize((nS E a (4^(h+1)):Nat):Int)=m;refine cG Tryz.func199 ?_;refine Wk ?_;rw [show(m != m)=false from bne_self_eq_false m];refine Wk ?_;refine⟨Nat,λi=>i<=4,λi=>⟨[(2,⟨[],true,.ptr 0 0 0⟩),(3,⟨[],true,.ptr 1 0 0⟩),(5,⟨[],true,.int .i64 (i:Int)⟩)],[(0,.box [.lst 3 false (kids E h a),.int .i64 0,.int .i64 m]),(1,.box [.lst 3 false (kids E h a),.int .i64 0,.int .i64 m])],2⟩,λi=>4-i,⟨0,zS _,?_⟩,λi C=>?_⟩
   ·exact Vw [some 0,some 1]
   dsimp only at C⊢;refine Wk ?_;rw [show(kids E h a).length=4 from rfl];refine aC (λf=>?_) (λf=>?_)<;> try simp only [zD,zC,zG,zE,zK] at f
   ·have f:i<4:=by simp at f;omega
    obtain⟨k0,k1,k2,k3,e⟩:=kQ z h (a+i*4^h);have j:=D (a+i*4^h);have hg:=fK E h a i f;rw [e] at j hg;refine Wk ?_;refine⟨λ_=>⟨rfl,by omega,by show(i:Int)<4;omega⟩,?_⟩;rw [zH,hg];refine Wk ?_;refine⟨λ_=>⟨rfl,by omega,by show(i:Int)<4;omega⟩,?_⟩;rw [zH,hg];refine cS j ?_;rw [dW (by omega)];refine⟨i+1,by show i+1<=4;omega,?_,by show 4- (i+1)<4-i;omega⟩;exact Vw [some 0,some 1]
   have f:i=4:=by simp at f;omega
   refine Wk ?_;exact Lf
theorem bPV {E:dA} (j:bK E):aN Tryz.prog 93 [] [.agg (can E),.agg (can E)] (.bool true) []:=by have f:=bM2 j (hgt E) 0;unfold can;obtain⟨k0,k1,k2,k3,e⟩:=kQ j (hgt E) 0;rw [e] at f⊢;refine cG Tryz.func93 ?_;refine cS f ?_;rw [beq_self_eq_true];exact Lf
end Go.Proofs.YtmhapcbjjpadnaaGreat
