/- Caches. -/
import Derived.Test.YtmhapcbjjpadnaaGreatGAg
set_option linter.all false
set_option maxRecDepth 40000
open Bool renaming cond_false_right→zC,cond_true_left→zD,not_eq_false'→zE,not_eq_true'→zG,not_not→zK
open Int renaming toNat_natCast→zH
open List renaming getD_eq_getElem?_getD→zA,length_append→zF,length_singleton→zI,length_set→zJ,getElem?_eq_getElem→zL,append_nil→zN,length_filter_le→zO,ne_nil_of_mem→zQ,take_length→zR
open Nat renaming not_lt_zero→zM,pow_le_pow_right→zP,zero_le→zS
namespace Go.Proofs.YtmhapcbjjpadnaaGreat
open Go Go.Sk Go.RowKit
def Sup(E:dD):Prop:=∀j,16<=j->(E j).1=0
def mxE(E:dD):Nat->Nat
 |0=>0
 |n+1=>bif (E n).1==0 then mxE E n else n
theorem mD(E:dD):∀n,(∀j,j<n->(E j).1≠0->j<=mxE E n)/\(mxE E n=0\/(mxE E n<n/\(E (mxE E n)).1≠0))
 |0=>⟨λj h=>absurd h (zM j),.inl rfl⟩
 |n+1=>by
  obtain⟨h1,h2⟩:=mD E n;rw [mxE]
  cases f:((E n).1==0) with
  |true=>
   have f:(E n).1=0:=by simpa using f
   simp only [zct];refine⟨λj z m=>?_,h2.elim .inl λh=>.inr ⟨by omega,h.2⟩⟩
   by_cases e:j=n
   ·subst e;exact absurd f m
   ·exact h1 j (by omega) m
  |false=>
   have f:(E n).1≠0:=by simpa using f
   simp only [zcf];exact⟨λj z _=>by omega,.inr ⟨by omega,f⟩⟩
def aGU(l:List Nat):Nat:=l.foldl max 0
theorem aV5(l:List Nat)(x:Nat):aGU (l++ [x])=max (aGU l) x:=by simp [aGU,List.foldl_append]
theorem aJA(l:List Nat):(∀j∈l,j<=aGU l)/\(aGU l=0\/aGU l∈l):=by
 have z:∀(l:List Nat) (m:Nat),(m<=l.foldl max m/\∀j∈l,j<=l.foldl max m)/\(l.foldl max m=m\/l.foldl max m∈l):=by
  intro l
  induction l with
  |nil=>exact λm=>⟨⟨Nat.le_refl _,by simp⟩,.inl rfl⟩
  |cons x r C=>
   intro m;obtain⟨⟨h1,h2⟩,f⟩:=C (max m x);rw [List.foldl_cons];refine⟨⟨by omega,λj B=>?_⟩,?_⟩
   ·rcases List.mem_cons.1 B with rfl |B
    ·omega
    ·exact h2 j B
   ·rcases f with f |f
    ·rw [f]
     by_cases e:m<=x
     ·right;rw [Nat.max_eq_right e];exact List.mem_cons_self
     ·left;exact Nat.max_eq_left (by omega)
    ·exact .inr (List.mem_cons_of_mem _ f)
 exact⟨(z l 0).1.2,(z l 0).2⟩
theorem bD7 {E:dD} {l:List Nat} (h1:∀j∈l,j<16)(h2:∀j,j<16->(j∈l↔(E j).1≠0)):aGU l=mxE E 16:=by
 obtain⟨m,e⟩:=aJA l;obtain⟨z,f⟩:=mD E 16;apply Nat.le_antisymm
 ·rcases e with e |e
  ·omega
  ·exact z _ (h1 _ e) ((h2 _ (h1 _ e)).1 e)
 ·rcases f with f |f
  ·omega
  ·exact m _ ((h2 _ f.1).2 f.2)
def hgt(E:dD):Nat:=htE (mxE E 16)
def can(E:dD):List V:=.int .i64 (hgt E:Int)::sub E (hgt E) 0
theorem pK(i:Nat):htE i<=2:=by unfold htE;cases Nat.beq i 0 <;> cases Nat.blt i 4 <;> decide
theorem aS2 {i:Nat} (h:i<16):i<4^htE i:=by
 have e:∀i:Fin 16,i.val<4^htE i.val:=by decide
 exact e ⟨i,h⟩
theorem aCT(E:dD):mxE E 16<16:=by rcases(mD E 16).2 with h |h <;> omega
theorem aB0 {E:dD} (m:Sup E):∀j,4^hgt E<=j->(E j).1=0:=λj f=>by
 by_cases e:(E j).1=0
 ·exact e
 ·by_cases h1:j<16
  ·have :=(mD E 16).1 j h1 e;have :=aS2 (aCT E);unfold hgt at f;omega
  ·exact m j (by omega)
theorem aJ1 {E:dD} {m:Nat} (hm:(E m).1≠0):∀n,m<n->(∀j,m<j->j<n->(E j).1=0)->∃r,bO E 0 n=r++ [m]
 |0,h,_=>absurd h (zM m)
 |n+1,h,f=>by
  rw [bO,Nat.zero_add]
  by_cases e:n=m
  ·subst e;exact⟨bO E 0 n,by rw [show((E n).1==0)=false from zbn.2 hm];rfl⟩
  ·rw [show((E n).1==0)=true from zbe.2 (f n (by omega) (by omega)),zct,zN];exact aJ1 hm n (by omega) λj h1 h2=>f j h1 (by omega)
theorem aF2 {E:dD} (J:Sup E):bAS (bO E 0 (4^hgt E)) (hgt E):=by
 obtain⟨D,e⟩:=mD E 16;have G:=aS2 (aCT E)
 by_cases f:(E (mxE E 16)).1=0
 ·have C:mxE E 16=0:=by rcases e with e |e;exact e;exact absurd f e.2
  have F:hgt E=0:=by unfold hgt;rw [C];rfl
  rw [C] at f
  have m:gO E 0 (4^0)=true:=jP.2 λi K=>by
   obtain rfl:i=0:=by have :(4:Nat)^0=1:=rfl;omega
   exact f
  rw [F,uT m];exact rfl
 ·obtain⟨r,H⟩:=aJ1 f (4^hgt E) G λj h1 h2=>by
   by_cases z:(E j).1=0
   ·exact z
   ·by_cases h4:j<16
    ·have :=D j h4 z;omega
    ·exact J j (by omega)
  rw [H];have B:aGO (r++ [mxE E 16])=mxE E 16:=by simp [aGO]
  cases r with
  |nil=>exact congrArg htE B
  |cons x r=>exact congrArg htE B
theorem bGK {E:dD} (C:bG E)(l:List Nat)(t:Bool)(h1:∀j∈l,j<16)(h2:∀j,j<16->(j∈l↔(E j).1≠0))(J:l.length<=100000):aM Tryz.prog 219 [] [.lst 3 t (bL E l)] (.agg (can E)) []:=by
 have z:aM Tryz.prog 295 [] [.int .i64 (mxE E 16:Nat)] (.int .i64 (hgt E:Int)) []:=bGW (mxE E 16) (aCT E);have H:=pK (mxE E 16);have M:4^hgt E<=16:=zP (n:=4) (by decide) H;have f:=bOP C (hgt E) 0 l t (by unfold hgt;omega) (by omega) (λj _ D=>h2 j (by omega)) (λj D=>by have :=h1 j D;omega) J;have B:=bD7 h1 h2
 have K:∀k,aGU (l.take k)<16:=λk=>by
  rcases(aJA (l.take k)).2 with h |h
  ·omega
  ·exact h1 _ (List.mem_of_mem_take h)
 unfold can;obtain⟨k0,k1,k2,k3,e⟩:=kZ C (hgt E) 0;rw [e] at f⊢;refine cF Tryz.func219 ?_;refine Wk ?_;refine⟨Nat,λk=>k<=l.length,λk=>⟨[(0,⟨[],true,.lst 3 t (bL E l)⟩),(2,⟨[],true,.ptr 0 0 0⟩),(3,⟨[],true,.int .i64 (aGU (l.take k):Nat)⟩),(4,⟨[],true,.int .i64 (k:Int)⟩)],[(0,.box [.int .i64 0,bJ,.int .i64 0,.int .i64 0])],1⟩,λk=>l.length-k,⟨0,zS _,?_⟩,λk G=>?_⟩
 ·exact Vw [some 0]
 dsimp only at G⊢;refine Wk ?_;rw [aO];refine aC (λm=>?_) (λm=>?_)<;> try simp only [zD,zC,zG,zE,zK] at m
 ·have m:k<l.length:=by simp at m;omega
  have F:=aV5 (l.take k) (l.getD k 0);rw [<-aE8 0 m] at F;refine Wk ?_;refine aI (⟨rfl,by omega,by rw [aO];omega⟩) ?_;rw [zH,lO E l k m];refine Wk ?_;rw [show max ((aGU (l.take k):Nat):Int) ((l.getD k 0:Nat):Int)=((max (aGU (l.take k)) (l.getD k 0):Nat):Int) by omega,<-F,dY (by omega)];refine⟨k+1,by show k+1<=_;omega,?_,by show l.length- (k+1)<l.length-k;omega⟩;exact Vw [some 0]
 have m:k=l.length:=by simp at m;omega
 subst m;rw [zR,B];refine Wk2 z f ?_;exact Lf
theorem cC {E:dD} (f:bG E):∃k n xs v,can E=[.int .i64 (hgt E:Int),.lst k n xs,.int .i64 v,.int .i64 (oG E 0 (4^hgt E):Nat)]:=by obtain⟨k0,k1,k2,k3,e⟩:=kZ f (hgt E) 0;exact⟨k0,k1,k2,k3,by rw [can,e]⟩
theorem aZG {E:dD} (e:bG E)(f:Sup E):aM Tryz.prog 218 [] [.agg (can E)] (.bool true) []:=aZF e _ (pK _) (aF2 f)
theorem aS4 {E:dD} {m:Nat} (f:∀j,m<=j->(E j).1=0):∀ {n},m<=n->bO E 0 n=bO E 0 m
 |0,h=>by obtain rfl:m=0:=by omega
          rfl
 |n+1,h=>by
  by_cases e:m=n+1
  ·subst e;rfl
  ·rw [bO,Nat.zero_add,show((E n).1==0)=true from zbe.2 (f n (by omega)),zct,zN,aS4 f (by omega)]
theorem aKT {E:dD} (e:Sup E):bO E 0 (4^hgt E)=bO E 0 16:=(aS4 (aB0 e) (zP (n:=4) (by decide) (pK _))).symm
theorem bJH {E:dD} (f:bG E)(e:Sup E):aM Tryz.prog 216 [] [.agg (can E)] (aV3 E (bO E 0 16)) []:=by
 have :=bGI f (hgt E) (pK _) (aF2 e)
 rwa [aKT e] at this
theorem bJJ {E:dD} (f:bG E)(e:Sup E)(j:bO E 0 16≠ []):aM Tryz.prog 216 [] [.agg (can E)] (.sl 0 0 (bO E 0 16).length) [.row 3 (bL E (bO E 0 16))]:=by
 have :=bJI f (hgt E) (pK _) (aF2 e) (by
  cases h:gO E 0 (4^hgt E) with
  |false=>rfl
  |true=>exact absurd (uT h) (by rw [aKT e];exact j))
 rwa [aKT e] at this
theorem aYY {E:dD} (f:bG E)(e:Sup E)(i:Int):aM Tryz.prog 117 [] [.agg (can E),.int .i64 i] (.int .i64 (aDC E i)) []:=bN8 f _ (pK _) (aF2 e) (aB0 e) i
def dZ(E:dD)(i:Nat)(p:Int×Nat):dD:=λj=>bif Nat.beq j i then p else E j
theorem fR(E:dD)(i:Nat)(p:Int×Nat):dZ E i p i=p:=by simp [dZ]
theorem eP {E:dD} {i j:Nat} {p:Int×Nat} (h:j≠i):dZ E i p j=E j:=by unfold dZ;rw [show Nat.beq j i=false from Bool.eq_false_iff.2 λe=>h (Nat.eq_of_beq_eq_true e)];rfl
theorem bG.set {E:dD} (h:bG E) {i:Nat} {p:Int×Nat} (h1:p.2<8)(h2:p.1<=0->p.2=0):bG (dZ E i p):=by
 refine⟨λj=>?_,λj=>?_⟩<;> by_cases e:j=i
 ·subst e;rw [fR];exact h1
 ·rw [eP e];exact h.small j
 ·subst e;rw [fR];exact h2
 ·rw [eP e];exact h.none j
theorem Sup.set {E:dD} (h:Sup E) {i:Nat} (hi:i<16)(p:Int×Nat):Sup (dZ E i p):=λj e=>by rw [eP (by omega)];exact h j e
theorem aV4(E:dD)(l:List Nat):∃k t,aV3 E l=.lst k t (bL E l)/\(0<l.length->k=3):=by
 cases l with
 |nil=>exact⟨0,true,rfl,λh=>absurd h (by decide)⟩
 |cons x r=>exact⟨3,false,rfl,λ_=>rfl⟩
theorem aVR {E:dD} {i:Nat} {p:Int×Nat} {l:List Nat} (h:∀j∈l,j≠i):bL (dZ E i p) l=bL E l:=by unfold bL;exact List.map_congr_left λj e=>by unfold pP;rw [eP (h j e)]
def neB(i j:Nat):Bool:=(j:Int) != (i:Int)
theorem aSE {i j:Nat} :neB i j=true↔j≠i:=by unfold neB;rw [bne_iff_ne];omega
theorem aYZ {E:dD} (W:bG E)(hs:Sup E)(i:Nat)(hi:i<16)(v:Int):aM Tryz.prog 118 [] [.agg (can E),.int .i64 (i:Int),.int .i64 v] (.tup [.agg (can (dZ E i (v,0))),.int .i64 0]) []:=by
 have D:=aZG W hs;have z:=bJH W hs;have Q:bG (dZ E i (v,0)):=W.set (Nat.zero_lt_succ _) (λ_=>rfl);have G:=mA E 0 16;have C:∀j∈bO E 0 16,j<16:=λj f=>by have :=kV.1 f;omega
 have m:∀j,j<16->(j∈bO E 0 16↔(E j).1≠0):=λj f=>by rw [kV];exact⟨λh=>h.2.2,λh=>⟨by omega,by omega,h⟩⟩
 have H:=λL h1 h2 hl=>bGK Q L false h1 h2 hl;obtain⟨k0,k1,k2,k3,e⟩:=cC W;obtain⟨q0,q1,q2,q3,e'⟩:=cC Q;obtain⟨kk,tt,hf,T⟩:=aV4 E (bO E 0 16);rw [hf,e] at z;rw [e] at D⊢;rw [e'] at H⊢;generalize bO E 0 16=l at G C m z T;clear hf;refine eY (ob0:= []) [.c 45] Tryz.func118 rfl rfl rfl rfl ?_;refine Wk2 D z ?_;rw [show decide ((i:Int)<0)=false from zdf (by omega),show decide ((255:Int)< (i:Int))=false from zdf (by omega)]
 refine Wk2 D z ?_
 refine⟨Nat,λk=>k<=l.length,λk=>⟨[(1,⟨[],true,.int .i64 (i:Int)⟩),(2,⟨[],true,.int .i64 v⟩),(6,⟨[],true,.ptr 0 0 0⟩),(8,⟨[],true,.lst kk tt (bL E l)⟩),(9,⟨[],true,.sl 1 0 ((l.take k).filter (neB i)).length⟩),(10,⟨[],true,.int .i64 (k:Int)⟩)],
  [(0,.box [.int .i64 0,bJ,.int .i64 0,.int .i64 0]),(1,.row 3 (bL E ((l.take k).filter (neB i))))],2⟩,λk=>l.length-k,⟨0,zS _,?_⟩,λk hI=>?_⟩
 ·exact Vw [some 1,none]
 dsimp only at hI⊢;have aa:((l.take k).filter (neB i)).length<=16:=by have :=zO (neB i) (l.take k);have :=List.length_take_le k l;omega
 refine Wk ?_;rw [aO];refine aC (λJ=>?_) (λJ=>?_)<;> try simp only [zD,zC,zG,zE,zK] at J
 ·have J:k<l.length:=by simp at J;omega
  obtain rfl:=T (by omega);have B:=tO (neB i) l k 0 J;have hg:=lO E l k J;have R:(((l.getD k 0:Nat):Int) != (i:Int))=neB i (l.getD k 0):=rfl;generalize l.getD k 0=j at B hg R;generalize(l.take k).filter (neB i)=F at B aa;refine Wk ?_;refine aI (⟨rfl,by omega,by rw [aO];omega⟩) ?_;rw [zH,hg];refine Wk ?_;rw [R];refine aC (λb2=>?_) (λb2=>?_)<;> try simp only [zD,zC,zG,zE,zK] at b2
  ·rw [b2,zct] at B;refine Wk ?_;refine aI (⟨rfl,by omega,by rw [aO];omega⟩) ?_;rw [zH,hg];refine Wk ?_;refine aI (aO E F).symm (cE (by rw [aO];show((F.length+1:Nat):Int)<=_;omega) (by rw [aO];show(F.length+1)*24<=_;omega) ?_);refine Wk ?_;rw [dY (by omega)];refine⟨k+1,by show k+1<=_;omega,?_,by show l.length- (k+1)<l.length-k;omega⟩;dsimp only;rw [B];refine bV [some 0,some 3] rfl rfl ?_ rfl ?_ rfl ?_
   repeat' (first |exact trivial |rfl |exact .inl rfl |exact .inr rfl |exact id |exact zbc |apply And.intro)
   ·show bL E F++ [pP E j]=_;simp [bL]
   ·show(bL E F).length+1=_;rw [aO,zF];rfl
  rw [b2,zcf] at B;refine Wk ?_;rw [dY (by omega)];refine⟨k+1,by show k+1<=_;omega,?_,by show l.length- (k+1)<l.length-k;omega⟩;dsimp only;rw [B];exact Vw [some 0,some 1]
 have J:k=l.length:=by simp at J;omega
 subst J;rw [zR];have K:∀j∈l.filter (neB i),j∈l/\j≠i:=λj f=>by rw [List.mem_filter] at f;exact⟨f.1,aSE.1 f.2⟩
 have M:∀j,j∈l->j≠i->j∈l.filter (neB i):=λj h1 h2=>List.mem_filter.2 ⟨h1,aSE.2 h2⟩;have N:bL (dZ E i (v,0)) (l.filter (neB i))=bL E (l.filter (neB i)):=aVR λj f=>(K j f).2;have Y:(l.filter (neB i)).length<=16:=Nat.le_trans (zO _ _) G;generalize l.filter (neB i)=F at K M N Y;refine Wk ?_
 refine⟨List Nat,λL=>((∀j∈L,j<16)/\∀j,j<16->(j∈L↔(dZ E i (v,0) j).1≠0))/\L.length<=100000,λL=>⟨[(6,⟨[],true,.ptr 0 0 0⟩),(9,⟨[],true,.lst 3 false (bL (dZ E i (v,0)) L)⟩)],[(0,.box [.int .i64 0,bJ,.int .i64 0,.int .i64 0])],1⟩,?_,λL Z=>?_⟩
 ·refine Wk ?_;refine aC (λO=>?_) (λO=>?_)<;> try simp only [zD,zC,zG,zE,zK] at O
  ·have O:v≠0:=by simpa using O
   refine Wk ?_;refine aI (aO E F).symm (cE (by rw [aO];show((F.length+1:Nat):Int)<=_;omega) (by rw [aO];show(F.length+1)*24<=_;omega) ?_);refine Wk ?_;refine⟨F++ [i],⟨⟨λj f=>?_,λj f=>?_⟩,by rw [zF,zI];omega⟩,?_⟩
   ·rcases List.mem_append.1 f with f |f
    ·exact C j (K j f).1
    ·obtain rfl:=List.mem_singleton.1 f;exact hi
   ·by_cases e:j=i
    ·subst e;rw [fR];exact⟨λ_=>O,λ_=>List.mem_append_right _ (List.mem_singleton.2 rfl)⟩
    ·rw [eP e,<-m j f,List.mem_append,List.mem_singleton];exact⟨λh=>(K j (h.resolve_right e)).1,λh=>.inl (M j h e)⟩
   have hr:bL E F++ [[V.int .i64 (i:Int),V.int .i64 v,V.int .i64 0]]=bL (dZ E i (v,0)) (F++ [i]):=by rw [<-N];simp [bL,pP,fR]
   refine bV [some 0] rfl rfl ?_ rfl ?_ rfl ?_
   repeat' (first |exact trivial |rfl |exact .inl rfl |exact .inr rfl |exact id |exact zbc |apply And.intro)
   ·show 0+((bL E F).length+1)<=(bL E F++ [[V.int .i64 (i:Int),V.int .i64 v,V.int .i64 0]]).length;rw [zF,zI];omega
   ·exact bZ hr (zF ..)
  have O:v=0:=by simpa using O
  refine Wk ?_;refine⟨F,⟨⟨λj f=>C j (K j f).1,λj f=>?_⟩,by omega⟩,?_⟩
  ·by_cases e:j=i
   ·subst e;rw [fR];exact⟨λh=>absurd rfl (K j h).2,λh=>absurd O h⟩
   ·rw [eP e,<-m j f];exact⟨λh=>(K j h).1,λh=>M j h e⟩
  dsimp only;rw [N];refine bV [some 0] rfl rfl ?_ rfl ?_ rfl ?_
  repeat' (first |exact trivial |rfl |exact .inl rfl |exact .inr rfl |exact id |exact zbc |apply And.intro)
  ·rw [aO];omega
  ·exact bZ rfl (aO _ _)
 refine cL (H L Z.1.1 Z.1.2 Z.2) ?_;exact Lf
theorem bPD(m:Nat)(hm:m=1\/m=2\/m=4):aM Tryz.prog 361 [] [.int .i64 (m:Int)] (.bool true) []:=by
 rcases hm with rfl |rfl |rfl
 ·exact run_eq E1 40 (by kernel_rfl)
 ·exact run_eq E1 40 (by kernel_rfl)
 ·exact run_eq E1 40 (by kernel_rfl)
def mK(on:Bool)(x m:Nat):Nat:=bif on then x ||| m else x &&& (7 ^^^ m)
theorem aX0 {on:Bool} {x m:Nat} (f:x<8)(hm:m<8):mK on x m<8:=by
 have e:∀on:Bool,∀a b:Fin 8,mK on a.val b.val<8:=by decide
 exact e on ⟨x,f⟩ ⟨m,hm⟩
theorem iU {x y:Nat} (f:x<8)(j:y<8):fX .andNot .i64 (x:Int) (y:Int)=((mK false x y:Nat):Int):=by
 have e:∀a:Fin 8,∀b:Fin 8,fX .andNot .i64 (a.val:Int) (b.val:Int)=((mK false a.val b.val:Nat):Int):=by decide
 exact e ⟨x,f⟩ ⟨y,j⟩
def tY(E:dD)(i:Nat)(on:Bool)(m:Nat):dD:=dZ E i ((E i).1,mK on (E i).2 m)
theorem bG.mrk {E:dD} (f:bG E) {i m:Nat} {on:Bool} (e:m<8)(hv:0< (E i).1):bG (tY E i on m):=by have h1:=aX0 (on:=on) (f.small i) e;exact f.set (p:=((E i).1,mK on (E i).2 m)) h1 (λh=>absurd h (by show ¬(E i).1<=0;omega))
theorem bDM {i:Nat} {l:List Nat} (h:i∈l):∃n:Nat,mH (i:Int) l 0=n/\n<l.length/\l.getD n 0=i:=by obtain⟨h1,h2⟩:=aHD (i:=(i:Int)) (l:=l) (k:=0);have f:0<=mH (i:Int) l 0:=Int.not_lt.1 λm=>h2 m i h rfl;obtain⟨-,j,e⟩:=h1 f;rw [Nat.sub_zero] at e;exact⟨(mH (i:Int) l 0).toNat,by omega,by omega,by omega⟩
theorem aVS {E:dD} {i:Nat} {p:Int×Nat} {l:List Nat} {n:Nat} (j:n<l.length)(hi:l.getD n 0=i)(F:∀k,k<l.length->l.getD k 0=i->k=n):
 (bL E l).set n (pP (dZ E i p) i)=bL (dZ E i p) l:=by
 apply List.ext_getElem?;intro k;simp only [bL,List.getElem?_set,List.getElem?_map,List.length_map];have f:∀x,l[k]? =some x->k<l.length/\l.getD k 0=x:=λx z=>⟨(List.getElem?_eq_some_iff.1 z).1,by simp [zA,z]⟩
 by_cases e:n=k
 ·subst e;rw [if_pos rfl,if_pos j];have :l[n]? =some i:=by rw [zL j,<-hi];simp [zA,j]
  rw [this];rfl
 ·rw [if_neg e]
  cases D:l[k]? with
  |none=>rfl
  |some x=> obtain⟨B,C⟩:=f x D;have m:x≠i:=λh=>e (F k B (by rw [C];exact h)).symm;show some (pP E x)=some (pP (dZ E i p) x);unfold pP;rw [eP m]
theorem aGE(E:dD)(a:Nat):∀n (k f:Nat),k< (bO E a n).length->f< (bO E a n).length->(bO E a n).getD k 0=(bO E a n).getD f 0->k=f
 |0,k,_,h,_,_=>absurd h (zM k)
 |n+1,k,f,h,B,e=>by
  have F:∀j,j< (bO E a n).length->(bO E a n).getD j 0<a+n:=λj C=>by
   have :(bO E a n).getD j 0∈bO E a n:=by simp only [zA,C,zL,Option.getD_some];exact List.getElem_mem C
   exact(kV.1 this).2.1
  rw [bO] at h B e
  cases G:((E (a+n)).1==0) with
  |true=>simp only [G,zct,zN] at h B e;exact aGE E a n k f h B e
  |false=>
   simp only [G,zcf,zF,zI] at h B e;have z:∀j,j< (bO E a n).length->(bO E a n++ [a+n]).getD j 0=(bO E a n).getD j 0:=λj C=>by simp [zA,List.getElem?_append_left C]
   have D:(bO E a n++ [a+n]).getD (bO E a n).length 0=a+n:=by simp [zA]
   by_cases c:k< (bO E a n).length <;> by_cases m:f< (bO E a n).length
   ·rw [z k c,z f m] at e;exact aGE E a n k f c m e
   ·obtain rfl:f=(bO E a n).length:=by omega
    rw [z k c,D] at e;have :=F k c;omega
   ·obtain rfl:k=(bO E a n).length:=by omega
    rw [z f m,D] at e;have :=F f m;omega
   ·omega
theorem bH3 {E:dD} (N:bG E)(Y:Sup E)(i:Nat)(hi:i<16)(m:Nat)(hm:m=1\/m=2\/m=4)(on:Bool)(hv:0< (E i).1):
 aM Tryz.prog 350 [] [.agg (can E),.int .i64 (i:Int),.int .i64 (m:Int),.bool on] (.tup [.agg (can (tY E i on m)),.int .i64 0]) []:=by
 have K:m<8:=by omega
 have H:=bPD m hm;have D:=aZG N Y;have F:i∈bO E 0 16:=kV.2 ⟨by omega,by omega,by omega⟩;have C:=bJJ N Y (zQ F);have O:=N.mrk (i:=i) (on:=on) K hv;have Q:=mA E 0 16
 have z:=bGK O (bO E 0 16) false (λj W=>by have :=kV.1 W;omega) (λj W=>by
  unfold tY
  by_cases e:j=i
  ·subst e;rw [fR];exact⟨λ_=>by show(E j).1≠0;omega,λ_=>F⟩
  ·rw [eP e,kV];exact⟨λh=>h.2.2,λh=>⟨by omega,by omega,h⟩⟩) (by omega)
 have f:=bGJ E (bO E 0 16) (i:Int) (by omega);rw [uV (zQ F)] at f;obtain⟨n,T,G,J⟩:=bDM F;have M:=aVS (E:=E) (p:=((E i).1,mK on (E i).2 m)) G J (λk R e=>aGE E 0 16 k n R G (by rw [e,J]));have hg:=lO E (bO E 0 16) n G;rw [J] at hg;rw [T] at f;have Z:=N.small i;obtain⟨k0,k1,k2,k3,e⟩:=cC N;obtain⟨q0,q1,q2,q3,e'⟩:=cC O;rw [e] at C;rw [e] at D⊢;rw [e'] at z⊢;generalize bO E 0 16=l at Q C f z G M hg;rw [<-bZ (X:=bL E l) rfl (aO E l)] at f
 refine eY (ob0:= []) [.s 62] Tryz.func350 rfl rfl rfl rfl ?_;refine Wk2 D H ?_;rw [show decide ((i:Int)<0)=false from zdf (by omega),show decide ((255:Int)< (i:Int))=false from zdf (by omega)];refine Wk2 D H ?_;refine .inr ⟨λ_=>⟨[],_,_,_,C,trivial,rfl,rfl,rfl,?_⟩,(by intro h;cases h)⟩
 refine Wk ?_;refine .inl ⟨_,λ_=>⟨?_,f⟩,.inr rfl,?_⟩
 ·intro v hv;rcases List.mem_cons.1 hv with rfl |hv
  ·show 0+l.length<=(bL E l).length;rw [aO];omega
  ·obtain rfl:=List.mem_singleton.1 hv;exact trivial
 refine Wk ?_;rw [show decide (0<=(n:Int)/\(n:Int)< (l.length:Int))=true from zdt ⟨by omega,by omega⟩];refine Wk ?_;rw [show 0+(n:Int).toNat=n by omega,show decide (n< (bL E l).length)=true from zdt (by rw [aO];exact G),hg];refine Wk ?_;rw [show decide ((E i).1<0)=false from zdf (by omega),show decide ((n:Int)<0)=false from zdf (by omega)];refine Wk ?_
 cases on with
 |true=>
  refine Wk ?_;rw [show decide (0<=(n:Int)/\(n:Int)< (l.length:Int))=true from zdt ⟨by omega,by omega⟩];refine Wk ?_;rw [show 0+(n:Int).toNat=n by omega,show decide (n< (bL E l).length)=true from zdt (by rw [aO];exact G),hg];refine Wk ?_;rw [fP Z K];refine Wk ?_;rw [show decide (0<=(n:Int)/\(n:Int)< (l.length:Int))=true from zdt ⟨by omega,by omega⟩];refine Wk ?_
  rw [show 0+(n:Int).toNat=n by omega,show decide (n< (bL E l).length)=true from zdt (by rw [aO];exact G),hg];refine Wk ?_;refine⟨Unit,λ_=>True,λ_=>⟨[(8,⟨[],true,.ptr 0 0 0⟩),(62,⟨[],true,.lst 3 false (bL (tY E i true m) l)⟩)],[(0,.box [.int .i64 0,bJ,.int .i64 0,.int .i64 0])],1⟩,?_,λ_ _=>?_⟩
  ·refine Wk ?_;refine⟨(),trivial,?_⟩;have B:(bL E l).set n [.int .i64 (i:Int),.int .i64 (E i).1,.int .i64 ((mK true (E i).2 m:Nat):Int)]=bL (tY E i true m) l:=by rw [tY,<-M,pP,fR]
   refine bV [some 1] rfl rfl ?_ rfl ?_ rfl ?_
   repeat' (first |exact trivial |rfl |exact .inl rfl |exact .inr rfl |exact id |exact zbc |apply And.intro)
   ·show 0+l.length<=((bL E l).set n [.int .i64 (i:Int),.int .i64 (E i).1,.int .i64 ((mK true (E i).2 m:Nat):Int)]).length;rw [zJ,aO];omega
   ·exact bZ B (by rw [zJ,aO])
  refine cL z ?_
  try subst R
  exact Lf
 |false=>
  refine Wk ?_;rw [show decide (0<=(n:Int)/\(n:Int)< (l.length:Int))=true from zdt ⟨by omega,by omega⟩];refine Wk ?_;rw [show 0+(n:Int).toNat=n by omega,show decide (n< (bL E l).length)=true from zdt (by rw [aO];exact G),hg];refine Wk ?_;rw [iU Z K];refine Wk ?_;rw [show decide (0<=(n:Int)/\(n:Int)< (l.length:Int))=true from zdt ⟨by omega,by omega⟩];refine Wk ?_
  rw [show 0+(n:Int).toNat=n by omega,show decide (n< (bL E l).length)=true from zdt (by rw [aO];exact G),hg];refine Wk ?_;refine⟨Unit,λ_=>True,λ_=>⟨[(8,⟨[],true,.ptr 0 0 0⟩),(62,⟨[],true,.lst 3 false (bL (tY E i false m) l)⟩)],[(0,.box [.int .i64 0,bJ,.int .i64 0,.int .i64 0])],1⟩,?_,λ_ _=>?_⟩
  ·refine Wk ?_;refine⟨(),trivial,?_⟩;have B:(bL E l).set n [.int .i64 (i:Int),.int .i64 (E i).1,.int .i64 ((mK false (E i).2 m:Nat):Int)]=bL (tY E i false m) l:=by rw [tY,<-M,pP,fR]
   refine bV [some 1] rfl rfl ?_ rfl ?_ rfl ?_
   repeat' (first |exact trivial |rfl |exact .inl rfl |exact .inr rfl |exact id |exact zbc |apply And.intro)
   ·show 0+l.length<=((bL E l).set n [.int .i64 (i:Int),.int .i64 (E i).1,.int .i64 ((mK false (E i).2 m:Nat):Int)]).length;rw [zJ,aO];omega
   ·exact bZ B (by rw [zJ,aO])
  refine cL z ?_
  try subst R
  exact Lf
theorem bP0 {E:dD} (j:bG E)(D:Sup E)(i:Nat)(hi:i<16)(m:Nat)(hm:m=1\/m=2\/m=4)(hv:0< (E i).1):
 aM Tryz.prog 319 [] [.agg (can E),.int .i64 (i:Int),.int .i64 (m:Int)] (.tup [.agg (can (tY E i true m)),.int .i64 0]) []:=by
 have B:m<8:=by omega
 have z:=j.mrk (i:=i) (on:=true) B hv;have f:=bH3 j D i hi m hm true hv;obtain⟨k0,k1,k2,k3,e⟩:=cC j;obtain⟨F,q1,q2,G,C⟩:=cC z;rw [e,C] at f;rw [e,C];refine cF Tryz.func319 ?_;refine cL f ?_;exact Lf
theorem bP1 {E:dD} (j:bG E)(D:Sup E)(i:Nat)(hi:i<16)(m:Nat)(hm:m=1\/m=2\/m=4)(hv:0< (E i).1):
 aM Tryz.prog 320 [] [.agg (can E),.int .i64 (i:Int),.int .i64 (m:Int)] (.tup [.agg (can (tY E i false m)),.int .i64 0]) []:=by
 have B:m<8:=by omega
 have z:=j.mrk (i:=i) (on:=false) B hv;have f:=bH3 j D i hi m hm false hv;obtain⟨k0,k1,k2,k3,e⟩:=cC j;obtain⟨F,q1,q2,G,C⟩:=cC z;rw [e,C] at f;rw [e,C];refine cF Tryz.func320 ?_;refine cL f ?_;exact Lf
theorem bNV {E:dD} (z:bG E):∀(h a:Nat),aM Tryz.prog 199 [] [.agg (sub E h a),.agg (sub E h a)] (.bool true) []:=by
 intro h
 induction h with
 |zero=>
  intro a;rw [sub];generalize(E a).1=v;generalize((E a).2:Int)=m;refine cF Tryz.func199 ?_;refine Wk ?_;rw [show(v != v)=false from bne_self_eq_false v,show(m != m)=false from bne_self_eq_false m];refine Wk ?_;refine⟨Unit,λ_=>True,λ_=>⟨[(2,⟨[],true,.ptr 0 0 0⟩),(3,⟨[],true,.ptr 1 0 0⟩),(5,⟨[],true,.int .i64 0⟩)],[(0,.box [bJ,.int .i64 v,.int .i64 m]),(1,.box [bJ,.int .i64 v,.int .i64 m])],2⟩,λ_=>0,⟨(),trivial,?_⟩,λ_ _=>?_⟩
  ·exact Vw [some 0,some 1]
  refine Wk ?_;exact Lf
 |succ h D=>
  intro a
  cases B:gO E a (4^(h+1)) with
  |true=> rw [fH z B];exact bAJ E1 40 (by kernel_rfl)
  |false=>
   rw [jB B];generalize((oG E a (4^(h+1)):Nat):Int)=m;refine cF Tryz.func199 ?_;refine Wk ?_;rw [show(m != m)=false from bne_self_eq_false m];refine Wk ?_;refine⟨Nat,λi=>i<=4,λi=>⟨[(2,⟨[],true,.ptr 0 0 0⟩),(3,⟨[],true,.ptr 1 0 0⟩),(5,⟨[],true,.int .i64 (i:Int)⟩)],[(0,.box [.lst 3 false (kids E h a),.int .i64 0,.int .i64 m]),(1,.box [.lst 3 false (kids E h a),.int .i64 0,.int .i64 m])],2⟩,λi=>4-i,⟨0,zS _,?_⟩,λi C=>?_⟩
   ·exact Vw [some 0,some 1]
   dsimp only at C⊢;refine Wk ?_;rw [show(kids E h a).length=4 from rfl];refine aC (λf=>?_) (λf=>?_)<;> try simp only [zD,zC,zG,zE,zK] at f
   ·have f:i<4:=by simp at f;omega
    obtain⟨k0,k1,k2,k3,e⟩:=kZ z h (a+i*4^h);have j:=D (a+i*4^h);have hg:=fO E h a i f;rw [e] at j hg;refine Wk ?_;refine⟨λ_=>⟨rfl,by omega,by show(i:Int)<4;omega⟩,?_⟩;rw [zH,hg];refine Wk ?_;refine⟨λ_=>⟨rfl,by omega,by show(i:Int)<4;omega⟩,?_⟩;rw [zH,hg];refine cL j ?_;rw [dY (by omega)];refine⟨i+1,by show i+1<=4;omega,?_,by show 4- (i+1)<4-i;omega⟩;exact Vw [some 0,some 1]
   have f:i=4:=by simp at f;omega
   refine Wk ?_;exact Lf
theorem bS7 {E:dD} (j:bG E):aM Tryz.prog 93 [] [.agg (can E),.agg (can E)] (.bool true) []:=by have f:=bNV j (hgt E) 0;unfold can;obtain⟨k0,k1,k2,k3,e⟩:=kZ j (hgt E) 0;rw [e] at f⊢;refine cF Tryz.func93 ?_;refine cL f ?_;rw [beq_self_eq_true];exact Lf
end Go.Proofs.YtmhapcbjjpadnaaGreat
