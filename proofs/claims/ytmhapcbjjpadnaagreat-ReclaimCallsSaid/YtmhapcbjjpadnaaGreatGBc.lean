/- Caches. -/
import Derived.Test.YtmhapcbjjpadnaaGreatGAc
set_option linter.all false
set_option maxRecDepth 40000
open Bool renaming cond_false_right→zC,cond_true_left→zD,not_eq_false'→zE,not_eq_true'→zG,not_not→zK
open Int renaming toNat_natCast→zH
open List renaming getD_eq_getElem?_getD→zA,length_append→zF,length_singleton→zI,length_set→zJ,getElem?_eq_getElem→zL,append_nil→zN,length_filter_le→zO,ne_nil_of_mem→zQ,take_length→zR
open Nat renaming not_lt_zero→zM,pow_le_pow_right→zP,zero_le→zS
namespace Go.Proofs.YtmhapcbjjpadnaaGreat
open Go Go.Sk Go.RowKit
def Sup(E:dJ):Prop:=∀j,16<=j->(E j).1=0
def mxE(E:dJ):Nat->Nat
 |0=>0
 |n+1=>bif (E n).1==0 then mxE E n else n
theorem mQ(E:dJ):∀n,(∀j,j<n->(E j).1≠0->j<=mxE E n)/\(mxE E n=0\/(mxE E n<n/\(E (mxE E n)).1≠0))
 |0=>⟨λj h=>absurd h (zM j),.inl rfl⟩
 |n+1=>by
  obtain⟨z,h2⟩:=mQ E n;rw [mxE]
  cases f:((E n).1==0) with
  |true=>
   have f:(E n).1=0:=by simpa using f
   simp only [zct];refine⟨λj B m=>?_,h2.elim .inl λh=>.inr ⟨by omega,h.2⟩⟩
   by_cases e:j=n
   ·subst e;exact absurd f m
   ·exact z j (by omega) m
  |false=>
   have f:(E n).1≠0:=by simpa using f
   simp only [zcf];exact⟨λj B _=>by omega,.inr ⟨by omega,f⟩⟩
def aHI(l:List Nat):Nat:=l.foldl max 0
theorem aW3(l:List Nat)(x:Nat):aHI (l++ [x])=max (aHI l) x:=by simp [aHI,List.foldl_append]
theorem aJR(l:List Nat):(∀j∈l,j<=aHI l)/\(aHI l=0\/aHI l∈l):=by
 have z:∀(l:List Nat) (m:Nat),(m<=l.foldl max m/\∀j∈l,j<=l.foldl max m)/\(l.foldl max m=m\/l.foldl max m∈l):=by
  intro l
  induction l with
  |nil=>exact λm=>⟨⟨Nat.le_refl _,by simp⟩,.inl rfl⟩
  |cons x r C=>
   intro m;obtain⟨⟨D,h2⟩,f⟩:=C (max m x);rw [List.foldl_cons];refine⟨⟨by omega,λj B=>?_⟩,?_⟩
   ·rcases List.mem_cons.1 B with rfl |B
    ·omega
    ·exact h2 j B
   ·rcases f with f |f
    ·rw [f]
     by_cases e:m<=x
     ·right;rw [Nat.max_eq_right e];exact List.mem_cons_self
     ·left;exact Nat.max_eq_left (by omega)
    ·exact .inr (List.mem_cons_of_mem _ f)
 exact⟨(z l 0).1.2,(z l 0).2⟩
theorem bDJ {E:dJ} {l:List Nat} (m:∀j∈l,j<16)(h2:∀j,j<16->(j∈l↔(E j).1≠0)):aHI l=mxE E 16:=by
 obtain⟨z,e⟩:=aJR l;obtain⟨B,f⟩:=mQ E 16;apply Nat.le_antisymm
 ·rcases e with e |e
  ·omega
  ·exact B _ (m _ e) ((h2 _ (m _ e)).1 e)
 ·rcases f with f |f
  ·omega
  ·exact z _ ((h2 _ f.1).2 f.2)
def hgt(E:dJ):Nat:=htE (mxE E 16)
def can(E:dJ):List V:=.int .i64 (hgt E:Int)::sub E (hgt E) 0
theorem pV(i:Nat):htE i<=2:=by unfold htE;cases Nat.beq i 0 <;> cases Nat.blt i 4 <;> decide
theorem aSV {i:Nat} (h:i<16):i<4^htE i:=by
 have e:∀i:Fin 16,i.val<4^htE i.val:=by decide
 exact e ⟨i,h⟩
theorem aDG(E:dJ):mxE E 16<16:=by rcases(mQ E 16).2 with h |h <;> omega
theorem aBJ {E:dJ} (z:Sup E):∀j,4^hgt E<=j->(E j).1=0:=λj m=>by
 by_cases e:(E j).1=0
 ·exact e
 ·by_cases f:j<16
  ·have :=(mQ E 16).1 j f e;have :=aSV (aDG E);unfold hgt at m;omega
  ·exact z j (by omega)
theorem aJL {E:dJ} {m:Nat} (hm:(E m).1≠0):∀n,m<n->(∀j,m<j->j<n->(E j).1=0)->∃r,bQ E 0 n=r++ [m]
 |0,h,_=>absurd h (zM m)
 |n+1,h,f=>by
  rw [bQ,Nat.zero_add]
  by_cases e:n=m
  ·subst e;exact⟨bQ E 0 n,by rw [show((E n).1==0)=false from zbn.2 hm];rfl⟩
  ·rw [show((E n).1==0)=true from zbe.2 (f n (by omega) (by omega)),zct,zN];exact aJL hm n (by omega) λj z h2=>f j z (by omega)
theorem aFR {E:dJ} (J:Sup E):bBE (bQ E 0 (4^hgt E)) (hgt E):=by
 obtain⟨D,e⟩:=mQ E 16;have G:=aSV (aDG E)
 by_cases f:(E (mxE E 16)).1=0
 ·have C:mxE E 16=0:=by rcases e with e |e;exact e;exact absurd f e.2
  have F:hgt E=0:=by unfold hgt;rw [C];rfl
  rw [C] at f
  have m:gU E 0 (4^0)=true:=jZ.2 λi M=>by
   obtain rfl:i=0:=by have :(4:Nat)^0=1:=rfl;omega
   exact f
  rw [F,vJ m];exact rfl
 ·obtain⟨r,H⟩:=aJL f (4^hgt E) G λj K h2=>by
   by_cases z:(E j).1=0
   ·exact z
   ·by_cases h4:j<16
    ·have :=D j h4 z;omega
    ·exact J j (by omega)
  rw [H];have B:aHE (r++ [mxE E 16])=mxE E 16:=by simp [aHE]
  cases r with
  |nil=>exact congrArg htE B
  |cons x r=>exact congrArg htE B
theorem bH7 {E:dJ} (D:bI E)(l:List Nat)(t:Bool)(B:∀j∈l,j<16)(h2:∀j,j<16->(j∈l↔(E j).1≠0))(K:l.length<=100000):aM Tryz.prog 219 [] [.lst 3 t (bO E l)] (.agg (can E)) []:=by
 have z:aM Tryz.prog 295 [] [.int .i64 (mxE E 16:Nat)] (.int .i64 (hgt E:Int)) []:=bHJ (mxE E 16) (aDG E);have J:=pV (mxE E 16);have N:4^hgt E<=16:=zP (n:=4) (by decide) J;have f:=bQ1 D (hgt E) 0 l t (by unfold hgt;omega) (by omega) (λj _ F=>h2 j (by omega)) (λj F=>by have :=B j F;omega) K;have C:=bDJ B h2
 have M:∀k,aHI (l.take k)<16:=λk=>by
  rcases(aJR (l.take k)).2 with h |h
  ·omega
  ·exact B _ (List.mem_of_mem_take h)
 unfold can;obtain⟨k0,k1,k2,k3,e⟩:=lK D (hgt E) 0;rw [e] at f⊢;refine cK Tryz.func219 ?_;refine Wk ?_;refine⟨Nat,λk=>k<=l.length,λk=>⟨[(0,⟨[],true,.lst 3 t (bO E l)⟩),(2,⟨[],true,.ptr 0 0 0⟩),(3,⟨[],true,.int .i64 (aHI (l.take k):Nat)⟩),(4,⟨[],true,.int .i64 (k:Int)⟩)],[(0,.box [.int .i64 0,bL,.int .i64 0,.int .i64 0])],1⟩,λk=>l.length-k,⟨0,zS _,?_⟩,λk H=>?_⟩
 ·exact Vw [some 0]
 dsimp only at H⊢;refine Wk ?_;rw [aR];refine aC (λm=>?_) (λm=>?_)<;> try simp only [zD,zC,zG,zE,zK] at m
 ·have m:k<l.length:=by simp at m;omega
  have G:=aW3 (l.take k) (l.getD k 0);rw [<-aEV 0 m] at G;refine Wk ?_;refine aG (⟨rfl,by omega,by rw [aR];omega⟩) ?_;rw [zH,lZ E l k m];refine Wk ?_;rw [show max ((aHI (l.take k):Nat):Int) ((l.getD k 0:Nat):Int)=((max (aHI (l.take k)) (l.getD k 0):Nat):Int) by omega,<-G,eF (by omega)];refine⟨k+1,by show k+1<=_;omega,?_,by show l.length- (k+1)<l.length-k;omega⟩;exact Vw [some 0]
 have m:k=l.length:=by simp at m;omega
 subst m;rw [zR,C];refine Wk2 z f ?_;exact Lf
theorem cH {E:dJ} (f:bI E):∃k n xs v,can E=[.int .i64 (hgt E:Int),.lst k n xs,.int .i64 v,.int .i64 (oS E 0 (4^hgt E):Nat)]:=by obtain⟨k0,k1,k2,k3,e⟩:=lK f (hgt E) 0;exact⟨k0,k1,k2,k3,by rw [can,e]⟩
theorem bA7 {E:dJ} (e:bI E)(f:Sup E):aM Tryz.prog 218 [] [.agg (can E)] (.bool true) []:=bA6 e _ (pV _) (aFR f)
theorem aSX {E:dJ} {m:Nat} (f:∀j,m<=j->(E j).1=0):∀ {n},m<=n->bQ E 0 n=bQ E 0 m
 |0,h=>by obtain rfl:m=0:=by omega
          rfl
 |n+1,h=>by
  by_cases e:m=n+1
  ·subst e;rfl
  ·rw [bQ,Nat.zero_add,show((E n).1==0)=true from zbe.2 (f n (by omega)),zct,zN,aSX f (by omega)]
theorem aLG {E:dJ} (e:Sup E):bQ E 0 (4^hgt E)=bQ E 0 16:=(aSX (aBJ e) (zP (n:=4) (by decide) (pV _))).symm
theorem bK7 {E:dJ} (f:bI E)(e:Sup E):aM Tryz.prog 216 [] [.agg (can E)] (aW1 E (bQ E 0 16)) []:=by
 have :=bH5 f (hgt E) (pV _) (aFR e)
 rwa [aLG e] at this
theorem bK9 {E:dJ} (f:bI E)(e:Sup E)(j:bQ E 0 16≠ []):aM Tryz.prog 216 [] [.agg (can E)] (.sl 0 0 (bQ E 0 16).length) [.row 3 (bO E (bQ E 0 16))]:=by
 have :=bK8 f (hgt E) (pV _) (aFR e) (by
  cases h:gU E 0 (4^hgt E) with
  |false=>rfl
  |true=>exact absurd (vJ h) (by rw [aLG e];exact j))
 rwa [aLG e] at this
theorem aZR {E:dJ} (f:bI E)(e:Sup E)(i:Int):aM Tryz.prog 117 [] [.agg (can E),.int .i64 i] (.int .i64 (aDY E i)) []:=bOI f _ (pV _) (aFR e) (aBJ e) i
def eH(E:dJ)(i:Nat)(p:Int×Nat):dJ:=λj=>bif Nat.beq j i then p else E j
theorem fV(E:dJ)(i:Nat)(p:Int×Nat):eH E i p i=p:=by simp [eH]
theorem eZ {E:dJ} {i j:Nat} {p:Int×Nat} (h:j≠i):eH E i p j=E j:=by unfold eH;rw [show Nat.beq j i=false from Bool.eq_false_iff.2 λe=>h (Nat.eq_of_beq_eq_true e)];rfl
theorem bI.set {E:dJ} (h:bI E) {i:Nat} {p:Int×Nat} (f:p.2<8)(h2:p.1<=0->p.2=0):bI (eH E i p):=by
 refine⟨λj=>?_,λj=>?_⟩<;> by_cases e:j=i
 ·subst e;rw [fV];exact f
 ·rw [eZ e];exact h.small j
 ·subst e;rw [fV];exact h2
 ·rw [eZ e];exact h.none j
theorem Sup.set {E:dJ} (h:Sup E) {i:Nat} (hi:i<16)(p:Int×Nat):Sup (eH E i p):=λj e=>by rw [eZ (by omega)];exact h j e
theorem aW2(E:dJ)(l:List Nat):∃k t,aW1 E l=.lst k t (bO E l)/\(0<l.length->k=3):=by
 cases l with
 |nil=>exact⟨0,true,rfl,λh=>absurd h (by decide)⟩
 |cons x r=>exact⟨3,false,rfl,λ_=>rfl⟩
theorem aWP {E:dJ} {i:Nat} {p:Int×Nat} {l:List Nat} (h:∀j∈l,j≠i):bO (eH E i p) l=bO E l:=by unfold bO;exact List.map_congr_left λj e=>by unfold pZ;rw [eZ (h j e)]
def neB(i j:Nat):Bool:=(j:Int) != (i:Int)
theorem aT7 {i j:Nat} :neB i j=true↔j≠i:=by unfold neB;rw [bne_iff_ne];omega
theorem aZS {E:dJ} (W:bI E)(hs:Sup E)(i:Nat)(hi:i<16)(v:Int):aM Tryz.prog 118 [] [.agg (can E),.int .i64 (i:Int),.int .i64 v] (.tup [.agg (can (eH E i (v,0))),.int .i64 0]) []:=by
 have D:=bA7 W hs;have z:=bK7 W hs;have Q:bI (eH E i (v,0)):=W.set (Nat.zero_lt_succ _) (λ_=>rfl);have G:=mM E 0 16;have C:∀j∈bQ E 0 16,j<16:=λj f=>by have :=lF.1 f;omega
 have m:∀j,j<16->(j∈bQ E 0 16↔(E j).1≠0):=λj f=>by rw [lF];exact⟨λh=>h.2.2,λh=>⟨by omega,by omega,h⟩⟩
 have H:=λL Y h2 hl=>bH7 Q L false Y h2 hl;obtain⟨k0,k1,k2,k3,e⟩:=cH W;obtain⟨q0,q1,q2,q3,e'⟩:=cH Q;obtain⟨kk,tt,hf,T⟩:=aW2 E (bQ E 0 16);rw [hf,e] at z;rw [e] at D⊢;rw [e'] at H⊢;generalize bQ E 0 16=l at G C m z T;clear hf;refine eT (ob0:= []) [.c 45] Tryz.func118 rfl rfl rfl rfl ?_;refine Wk2 D z ?_;rw [show decide ((i:Int)<0)=false from zdf (by omega),show decide ((255:Int)< (i:Int))=false from zdf (by omega)]
 refine Wk2 D z ?_
 refine⟨Nat,λk=>k<=l.length,λk=>⟨[(1,⟨[],true,.int .i64 (i:Int)⟩),(2,⟨[],true,.int .i64 v⟩),(6,⟨[],true,.ptr 0 0 0⟩),(8,⟨[],true,.lst kk tt (bO E l)⟩),(9,⟨[],true,.sl 1 0 ((l.take k).filter (neB i)).length⟩),(10,⟨[],true,.int .i64 (k:Int)⟩)],
  [(0,.box [.int .i64 0,bL,.int .i64 0,.int .i64 0]),(1,.row 3 (bO E ((l.take k).filter (neB i))))],2⟩,λk=>l.length-k,⟨0,zS _,?_⟩,λk hI=>?_⟩
 ·exact Vw [some 1,none]
 dsimp only at hI⊢;have aa:((l.take k).filter (neB i)).length<=16:=by have :=zO (neB i) (l.take k);have :=List.length_take_le k l;omega
 refine Wk ?_;rw [aR];refine aC (λJ=>?_) (λJ=>?_)<;> try simp only [zD,zC,zG,zE,zK] at J
 ·have J:k<l.length:=by simp at J;omega
  obtain rfl:=T (by omega);have B:=tY (neB i) l k 0 J;have hg:=lZ E l k J;have R:(((l.getD k 0:Nat):Int) != (i:Int))=neB i (l.getD k 0):=rfl;generalize l.getD k 0=j at B hg R;generalize(l.take k).filter (neB i)=F at B aa;refine Wk ?_;refine aG (⟨rfl,by omega,by rw [aR];omega⟩) ?_;rw [zH,hg];refine Wk ?_;rw [R];refine aC (λb2=>?_) (λb2=>?_)<;> try simp only [zD,zC,zG,zE,zK] at b2
  ·rw [b2,zct] at B;refine Wk ?_;refine aG (⟨rfl,by omega,by rw [aR];omega⟩) ?_;rw [zH,hg];refine Wk ?_;refine aG (aR E F).symm (cA (by rw [aR];show((F.length+1:Nat):Int)<=_;omega) (by rw [aR];show(F.length+1)*24<=_;omega) ?_);refine Wk ?_;rw [eF (by omega)];refine⟨k+1,by show k+1<=_;omega,?_,by show l.length- (k+1)<l.length-k;omega⟩;dsimp only;rw [B];refine bU [some 0,some 3] rfl rfl ?_ rfl ?_ rfl ?_
   repeat' (first |exact trivial |rfl |exact .inl rfl |exact .inr rfl |exact id |exact zbc |apply And.intro)
   ·show bO E F++ [pZ E j]=_;simp [bO]
   ·show(bO E F).length+1=_;rw [aR,zF];rfl
  rw [b2,zcf] at B;refine Wk ?_;rw [eF (by omega)];refine⟨k+1,by show k+1<=_;omega,?_,by show l.length- (k+1)<l.length-k;omega⟩;dsimp only;rw [B];exact Vw [some 0,some 1]
 have J:k=l.length:=by simp at J;omega
 subst J;rw [zR];have K:∀j∈l.filter (neB i),j∈l/\j≠i:=λj f=>by rw [List.mem_filter] at f;exact⟨f.1,aT7.1 f.2⟩
 have M:∀j,j∈l->j≠i->j∈l.filter (neB i):=λj Y h2=>List.mem_filter.2 ⟨Y,aT7.2 h2⟩;have N:bO (eH E i (v,0)) (l.filter (neB i))=bO E (l.filter (neB i)):=aWP λj f=>(K j f).2;have Z:(l.filter (neB i)).length<=16:=Nat.le_trans (zO _ _) G;generalize l.filter (neB i)=F at K M N Z;refine Wk ?_
 refine⟨List Nat,λL=>((∀j∈L,j<16)/\∀j,j<16->(j∈L↔(eH E i (v,0) j).1≠0))/\L.length<=100000,λL=>⟨[(6,⟨[],true,.ptr 0 0 0⟩),(9,⟨[],true,.lst 3 false (bO (eH E i (v,0)) L)⟩)],[(0,.box [.int .i64 0,bL,.int .i64 0,.int .i64 0])],1⟩,?_,λL hL=>?_⟩
 ·refine Wk ?_;refine aC (λO=>?_) (λO=>?_)<;> try simp only [zD,zC,zG,zE,zK] at O
  ·have O:v≠0:=by simpa using O
   refine Wk ?_;refine aG (aR E F).symm (cA (by rw [aR];show((F.length+1:Nat):Int)<=_;omega) (by rw [aR];show(F.length+1)*24<=_;omega) ?_);refine Wk ?_;refine⟨F++ [i],⟨⟨λj f=>?_,λj f=>?_⟩,by rw [zF,zI];omega⟩,?_⟩
   ·rcases List.mem_append.1 f with f |f
    ·exact C j (K j f).1
    ·obtain rfl:=List.mem_singleton.1 f;exact hi
   ·by_cases e:j=i
    ·subst e;rw [fV];exact⟨λ_=>O,λ_=>List.mem_append_right _ (List.mem_singleton.2 rfl)⟩
    ·rw [eZ e,<-m j f,List.mem_append,List.mem_singleton];exact⟨λh=>(K j (h.resolve_right e)).1,λh=>.inl (M j h e)⟩
   have hr:bO E F++ [[V.int .i64 (i:Int),V.int .i64 v,V.int .i64 0]]=bO (eH E i (v,0)) (F++ [i]):=by rw [<-N];simp [bO,pZ,fV]
   refine bU [some 0] rfl rfl ?_ rfl ?_ rfl ?_
   repeat' (first |exact trivial |rfl |exact .inl rfl |exact .inr rfl |exact id |exact zbc |apply And.intro)
   ·show 0+((bO E F).length+1)<=(bO E F++ [[V.int .i64 (i:Int),V.int .i64 v,V.int .i64 0]]).length;rw [zF,zI];omega
   ·exact cF hr (zF ..)
  have O:v=0:=by simpa using O
  refine Wk ?_;refine⟨F,⟨⟨λj f=>C j (K j f).1,λj f=>?_⟩,by omega⟩,?_⟩
  ·by_cases e:j=i
   ·subst e;rw [fV];exact⟨λh=>absurd rfl (K j h).2,λh=>absurd O h⟩
   ·rw [eZ e,<-m j f];exact⟨λh=>(K j h).1,λh=>M j h e⟩
  dsimp only;rw [N];refine bU [some 0] rfl rfl ?_ rfl ?_ rfl ?_
  repeat' (first |exact trivial |rfl |exact .inl rfl |exact .inr rfl |exact id |exact zbc |apply And.intro)
  ·rw [aR];omega
  ·exact cF rfl (aR _ _)
 refine cO (H L hL.1.1 hL.1.2 hL.2) ?_;exact Lf
theorem bQP(m:Nat)(hm:m=1\/m=2\/m=4):aM Tryz.prog 361 [] [.int .i64 (m:Int)] (.bool true) []:=by
 rcases hm with rfl |rfl |rfl
 ·exact run_eq E1 40 (by kernel_rfl)
 ·exact run_eq E1 40 (by kernel_rfl)
 ·exact run_eq E1 40 (by kernel_rfl)
def mW(on:Bool)(x m:Nat):Nat:=bif on then x ||| m else x &&& (7 ^^^ m)
theorem aXY {on:Bool} {x m:Nat} (f:x<8)(hm:m<8):mW on x m<8:=by
 have e:∀on:Bool,∀a b:Fin 8,mW on a.val b.val<8:=by decide
 exact e on ⟨x,f⟩ ⟨m,hm⟩
theorem jD {x y:Nat} (f:x<8)(j:y<8):gC .andNot .i64 (x:Int) (y:Int)=((mW false x y:Nat):Int):=by
 have e:∀a:Fin 8,∀b:Fin 8,gC .andNot .i64 (a.val:Int) (b.val:Int)=((mW false a.val b.val:Nat):Int):=by decide
 exact e ⟨x,f⟩ ⟨y,j⟩
def uI(E:dJ)(i:Nat)(on:Bool)(m:Nat):dJ:=eH E i ((E i).1,mW on (E i).2 m)
theorem bI.mrk {E:dJ} (f:bI E) {i m:Nat} {on:Bool} (e:m<8)(hv:0< (E i).1):bI (uI E i on m):=by have j:=aXY (on:=on) (f.small i) e;exact f.set (p:=((E i).1,mW on (E i).2 m)) j (λh=>absurd h (by show ¬(E i).1<=0;omega))
theorem bDY {i:Nat} {l:List Nat} (h:i∈l):∃n:Nat,mT (i:Int) l 0=n/\n<l.length/\l.getD n 0=i:=by obtain⟨j,h2⟩:=aI2 (i:=(i:Int)) (l:=l) (k:=0);have f:0<=mT (i:Int) l 0:=Int.not_lt.1 λz=>h2 z i h rfl;obtain⟨-,m,e⟩:=j f;rw [Nat.sub_zero] at e;exact⟨(mT (i:Int) l 0).toNat,by omega,by omega,by omega⟩
theorem aWQ {E:dJ} {i:Nat} {p:Int×Nat} {l:List Nat} {n:Nat} (j:n<l.length)(hi:l.getD n 0=i)(F:∀k,k<l.length->l.getD k 0=i->k=n):
 (bO E l).set n (pZ (eH E i p) i)=bO (eH E i p) l:=by
 apply List.ext_getElem?;intro k;simp only [bO,List.getElem?_set,List.getElem?_map,List.length_map];have f:∀x,l[k]? =some x->k<l.length/\l.getD k 0=x:=λx z=>⟨(List.getElem?_eq_some_iff.1 z).1,by simp [zA,z]⟩
 by_cases e:n=k
 ·subst e;rw [if_pos rfl,if_pos j];have :l[n]? =some i:=by rw [zL j,<-hi];simp [zA,j]
  rw [this];rfl
 ·rw [if_neg e]
  cases D:l[k]? with
  |none=>rfl
  |some x=> obtain⟨B,C⟩:=f x D;have m:x≠i:=λh=>e (F k B (by rw [C];exact h)).symm;show some (pZ E x)=some (pZ (eH E i p) x);unfold pZ;rw [eZ m]
theorem aH4(E:dJ)(a:Nat):∀n (k f:Nat),k< (bQ E a n).length->f< (bQ E a n).length->(bQ E a n).getD k 0=(bQ E a n).getD f 0->k=f
 |0,k,_,h,_,_=>absurd h (zM k)
 |n+1,k,f,h,B,e=>by
  have F:∀j,j< (bQ E a n).length->(bQ E a n).getD j 0<a+n:=λj C=>by
   have :(bQ E a n).getD j 0∈bQ E a n:=by simp only [zA,C,zL,Option.getD_some];exact List.getElem_mem C
   exact(lF.1 this).2.1
  rw [bQ] at h B e
  cases G:((E (a+n)).1==0) with
  |true=>simp only [G,zct,zN] at h B e;exact aH4 E a n k f h B e
  |false=>
   simp only [G,zcf,zF,zI] at h B e;have z:∀j,j< (bQ E a n).length->(bQ E a n++ [a+n]).getD j 0=(bQ E a n).getD j 0:=λj C=>by simp [zA,List.getElem?_append_left C]
   have D:(bQ E a n++ [a+n]).getD (bQ E a n).length 0=a+n:=by simp [zA]
   by_cases c:k< (bQ E a n).length <;> by_cases m:f< (bQ E a n).length
   ·rw [z k c,z f m] at e;exact aH4 E a n k f c m e
   ·obtain rfl:f=(bQ E a n).length:=by omega
    rw [z k c,D] at e;have :=F k c;omega
   ·obtain rfl:k=(bQ E a n).length:=by omega
    rw [z f m,D] at e;have :=F f m;omega
   ·omega
theorem bHQ {E:dJ} (N:bI E)(Y:Sup E)(i:Nat)(hi:i<16)(m:Nat)(hm:m=1\/m=2\/m=4)(on:Bool)(hv:0< (E i).1):
 aM Tryz.prog 350 [] [.agg (can E),.int .i64 (i:Int),.int .i64 (m:Int),.bool on] (.tup [.agg (can (uI E i on m)),.int .i64 0]) []:=by
 have K:m<8:=by omega
 have H:=bQP m hm;have D:=bA7 N Y;have F:i∈bQ E 0 16:=lF.2 ⟨by omega,by omega,by omega⟩;have C:=bK9 N Y (zQ F);have O:=N.mrk (i:=i) (on:=on) K hv;have Q:=mM E 0 16
 have z:=bH7 O (bQ E 0 16) false (λj W=>by have :=lF.1 W;omega) (λj W=>by
  unfold uI
  by_cases e:j=i
  ·subst e;rw [fV];exact⟨λ_=>by show(E j).1≠0;omega,λ_=>F⟩
  ·rw [eZ e,lF];exact⟨λh=>h.2.2,λh=>⟨by omega,by omega,h⟩⟩) (by omega)
 have f:=bH6 E (bQ E 0 16) (i:Int) (by omega);rw [vN (zQ F)] at f;obtain⟨n,T,G,J⟩:=bDY F;have M:=aWQ (E:=E) (p:=((E i).1,mW on (E i).2 m)) G J (λk R e=>aH4 E 0 16 k n R G (by rw [e,J]));have hg:=lZ E (bQ E 0 16) n G;rw [J] at hg;rw [T] at f;have Z:=N.small i;obtain⟨k0,k1,k2,k3,e⟩:=cH N;obtain⟨q0,q1,q2,q3,e'⟩:=cH O;rw [e] at C;rw [e] at D⊢;rw [e'] at z⊢;generalize bQ E 0 16=l at Q C f z G M hg;rw [<-cF (X:=bO E l) rfl (aR E l)] at f
 refine eT (ob0:= []) [.s 62] Tryz.func350 rfl rfl rfl rfl ?_;refine Wk2 D H ?_;rw [show decide ((i:Int)<0)=false from zdf (by omega),show decide ((255:Int)< (i:Int))=false from zdf (by omega)];refine Wk2 D H ?_;refine .inr ⟨λ_=>⟨[],_,_,_,C,trivial,rfl,rfl,rfl,?_⟩,(by intro h;cases h)⟩
 refine Wk ?_;refine .inl ⟨_,λ_=>⟨?_,f⟩,.inr rfl,?_⟩
 ·intro v hv;rcases List.mem_cons.1 hv with rfl |hv
  ·show 0+l.length<=(bO E l).length;rw [aR];omega
  ·obtain rfl:=List.mem_singleton.1 hv;exact trivial
 refine Wk ?_;rw [show decide (0<=(n:Int)/\(n:Int)< (l.length:Int))=true from zdt ⟨by omega,by omega⟩];refine Wk ?_;rw [show 0+(n:Int).toNat=n by omega,show decide (n< (bO E l).length)=true from zdt (by rw [aR];exact G),hg];refine Wk ?_;rw [show decide ((E i).1<0)=false from zdf (by omega),show decide ((n:Int)<0)=false from zdf (by omega)];refine Wk ?_
 cases on with
 |true=>
  refine Wk ?_;rw [show decide (0<=(n:Int)/\(n:Int)< (l.length:Int))=true from zdt ⟨by omega,by omega⟩];refine Wk ?_;rw [show 0+(n:Int).toNat=n by omega,show decide (n< (bO E l).length)=true from zdt (by rw [aR];exact G),hg];refine Wk ?_;rw [fU Z K];refine Wk ?_;rw [show decide (0<=(n:Int)/\(n:Int)< (l.length:Int))=true from zdt ⟨by omega,by omega⟩];refine Wk ?_
  rw [show 0+(n:Int).toNat=n by omega,show decide (n< (bO E l).length)=true from zdt (by rw [aR];exact G),hg];refine Wk ?_;refine⟨Unit,λ_=>True,λ_=>⟨[(8,⟨[],true,.ptr 0 0 0⟩),(62,⟨[],true,.lst 3 false (bO (uI E i true m) l)⟩)],[(0,.box [.int .i64 0,bL,.int .i64 0,.int .i64 0])],1⟩,?_,λ_ _=>?_⟩
  ·refine Wk ?_;refine⟨(),trivial,?_⟩;have B:(bO E l).set n [.int .i64 (i:Int),.int .i64 (E i).1,.int .i64 ((mW true (E i).2 m:Nat):Int)]=bO (uI E i true m) l:=by rw [uI,<-M,pZ,fV]
   refine bU [some 1] rfl rfl ?_ rfl ?_ rfl ?_
   repeat' (first |exact trivial |rfl |exact .inl rfl |exact .inr rfl |exact id |exact zbc |apply And.intro)
   ·show 0+l.length<=((bO E l).set n [.int .i64 (i:Int),.int .i64 (E i).1,.int .i64 ((mW true (E i).2 m:Nat):Int)]).length;rw [zJ,aR];omega
   ·exact cF B (by rw [zJ,aR])
  refine cO z ?_
  try subst R
  exact Lf
 |false=>
  refine Wk ?_;rw [show decide (0<=(n:Int)/\(n:Int)< (l.length:Int))=true from zdt ⟨by omega,by omega⟩];refine Wk ?_;rw [show 0+(n:Int).toNat=n by omega,show decide (n< (bO E l).length)=true from zdt (by rw [aR];exact G),hg];refine Wk ?_;rw [jD Z K];refine Wk ?_;rw [show decide (0<=(n:Int)/\(n:Int)< (l.length:Int))=true from zdt ⟨by omega,by omega⟩];refine Wk ?_
  rw [show 0+(n:Int).toNat=n by omega,show decide (n< (bO E l).length)=true from zdt (by rw [aR];exact G),hg];refine Wk ?_;refine⟨Unit,λ_=>True,λ_=>⟨[(8,⟨[],true,.ptr 0 0 0⟩),(62,⟨[],true,.lst 3 false (bO (uI E i false m) l)⟩)],[(0,.box [.int .i64 0,bL,.int .i64 0,.int .i64 0])],1⟩,?_,λ_ _=>?_⟩
  ·refine Wk ?_;refine⟨(),trivial,?_⟩;have B:(bO E l).set n [.int .i64 (i:Int),.int .i64 (E i).1,.int .i64 ((mW false (E i).2 m:Nat):Int)]=bO (uI E i false m) l:=by rw [uI,<-M,pZ,fV]
   refine bU [some 1] rfl rfl ?_ rfl ?_ rfl ?_
   repeat' (first |exact trivial |rfl |exact .inl rfl |exact .inr rfl |exact id |exact zbc |apply And.intro)
   ·show 0+l.length<=((bO E l).set n [.int .i64 (i:Int),.int .i64 (E i).1,.int .i64 ((mW false (E i).2 m:Nat):Int)]).length;rw [zJ,aR];omega
   ·exact cF B (by rw [zJ,aR])
  refine cO z ?_
  try subst R
  exact Lf
theorem bQC {E:dJ} (j:bI E)(D:Sup E)(i:Nat)(hi:i<16)(m:Nat)(hm:m=1\/m=2\/m=4)(hv:0< (E i).1):
 aM Tryz.prog 319 [] [.agg (can E),.int .i64 (i:Int),.int .i64 (m:Int)] (.tup [.agg (can (uI E i true m)),.int .i64 0]) []:=by
 have B:m<8:=by omega
 have z:=j.mrk (i:=i) (on:=true) B hv;have f:=bHQ j D i hi m hm true hv;obtain⟨k0,k1,k2,k3,e⟩:=cH j;obtain⟨F,q1,q2,G,C⟩:=cH z;rw [e,C] at f;rw [e,C];refine cK Tryz.func319 ?_;refine cO f ?_;exact Lf
theorem bQD {E:dJ} (j:bI E)(D:Sup E)(i:Nat)(hi:i<16)(m:Nat)(hm:m=1\/m=2\/m=4)(hv:0< (E i).1):
 aM Tryz.prog 320 [] [.agg (can E),.int .i64 (i:Int),.int .i64 (m:Int)] (.tup [.agg (can (uI E i false m)),.int .i64 0]) []:=by
 have B:m<8:=by omega
 have z:=j.mrk (i:=i) (on:=false) B hv;have f:=bHQ j D i hi m hm false hv;obtain⟨k0,k1,k2,k3,e⟩:=cH j;obtain⟨F,q1,q2,G,C⟩:=cH z;rw [e,C] at f;rw [e,C];refine cK Tryz.func320 ?_;refine cO f ?_;exact Lf
theorem bP3 {E:dJ} (z:bI E):∀(h a:Nat),aM Tryz.prog 199 [] [.agg (sub E h a),.agg (sub E h a)] (.bool true) []:=by
 intro h
 induction h with
 |zero=>
  intro a;rw [sub];generalize(E a).1=v;generalize((E a).2:Int)=m;refine cK Tryz.func199 ?_;refine Wk ?_;rw [show(v != v)=false from bne_self_eq_false v,show(m != m)=false from bne_self_eq_false m];refine Wk ?_;refine⟨Unit,λ_=>True,λ_=>⟨[(2,⟨[],true,.ptr 0 0 0⟩),(3,⟨[],true,.ptr 1 0 0⟩),(5,⟨[],true,.int .i64 0⟩)],[(0,.box [bL,.int .i64 v,.int .i64 m]),(1,.box [bL,.int .i64 v,.int .i64 m])],2⟩,λ_=>0,⟨(),trivial,?_⟩,λ_ _=>?_⟩
  ·exact Vw [some 0,some 1]
  refine Wk ?_;exact Lf
 |succ h D=>
  intro a
  cases B:gU E a (4^(h+1)) with
  |true=> rw [fP z B];exact bB6 E1 40 (by kernel_rfl)
  |false=>
   rw [jK B];generalize((oS E a (4^(h+1)):Nat):Int)=m;refine cK Tryz.func199 ?_;refine Wk ?_;rw [show(m != m)=false from bne_self_eq_false m];refine Wk ?_;refine⟨Nat,λi=>i<=4,λi=>⟨[(2,⟨[],true,.ptr 0 0 0⟩),(3,⟨[],true,.ptr 1 0 0⟩),(5,⟨[],true,.int .i64 (i:Int)⟩)],[(0,.box [.lst 3 false (kids E h a),.int .i64 0,.int .i64 m]),(1,.box [.lst 3 false (kids E h a),.int .i64 0,.int .i64 m])],2⟩,λi=>4-i,⟨0,zS _,?_⟩,λi C=>?_⟩
   ·exact Vw [some 0,some 1]
   dsimp only at C⊢;refine Wk ?_;rw [show(kids E h a).length=4 from rfl];refine aC (λf=>?_) (λf=>?_)<;> try simp only [zD,zC,zG,zE,zK] at f
   ·have f:i<4:=by simp at f;omega
    obtain⟨k0,k1,k2,k3,e⟩:=lK z h (a+i*4^h);have j:=D (a+i*4^h);have hg:=fT E h a i f;rw [e] at j hg;refine Wk ?_;refine⟨λ_=>⟨rfl,by omega,by show(i:Int)<4;omega⟩,?_⟩;rw [zH,hg];refine Wk ?_;refine⟨λ_=>⟨rfl,by omega,by show(i:Int)<4;omega⟩,?_⟩;rw [zH,hg];refine cO j ?_;rw [eF (by omega)];refine⟨i+1,by show i+1<=4;omega,?_,by show 4- (i+1)<4-i;omega⟩;exact Vw [some 0,some 1]
   have f:i=4:=by simp at f;omega
   refine Wk ?_;exact Lf
theorem bTN {E:dJ} (j:bI E):aM Tryz.prog 93 [] [.agg (can E),.agg (can E)] (.bool true) []:=by have f:=bP3 j (hgt E) 0;unfold can;obtain⟨k0,k1,k2,k3,e⟩:=lK j (hgt E) 0;rw [e] at f⊢;refine cK Tryz.func93 ?_;refine cO f ?_;rw [beq_self_eq_true];exact Lf
end Go.Proofs.YtmhapcbjjpadnaaGreat
