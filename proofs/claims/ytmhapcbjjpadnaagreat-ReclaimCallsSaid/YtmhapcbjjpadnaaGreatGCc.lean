/- Caches. -/
import Derived.Test.YtmhapcbjjpadnaaGreatGBc
set_option linter.all false
set_option maxHeartbeats 2000000
set_option maxRecDepth 40000
open Bool renaming cond_false_right→zA,cond_true_left→zC,not_eq_false'→zD,not_eq_true'→zE,not_not→zF
open Int renaming toNat_natCast→zI
open List renaming length_take→zJ
open Nat renaming mul_le_mul_right→zG,zero_le→zH,le_refl→zK,pow_le_pow_right→zL,succ_mul→zM,zero_mul→zN,le_trans→zO,pos_of_ne_zero→zP
namespace Go.Proofs.YtmhapcbjjpadnaaGreat
open Go Go.Sk Go.RowKit
theorem aAR:aM Tryz.prog 312 [] [.agg mt] (.bool true) []:=by refine cK Tryz.func312 ?_;refine Wk ?_;exact Lf
theorem bAC(v m:Int)(hv:v≠0):aM Tryz.prog 312 [] [.agg [bL,.int .i64 v,.int .i64 m]] (.bool false) []:=by
 have hv:(v==0)=false:=by simpa using hv
 refine cK Tryz.func312 ?_;refine Wk ?_;rw [hv];refine Wk ?_;exact Lf
theorem aHR(f:List (List V))(v m:Int)(e:f.length=4):aM Tryz.prog 312 [] [.agg [.lst 3 false f,.int .i64 v,.int .i64 m]] (.bool false) []:=by
 refine cK Tryz.func312 ?_;refine Wk ?_;rw [e];refine Wk ?_
 try subst e
 exact Lf
theorem aTO {E:dJ} (f:bI E)(h a:Nat):aM Tryz.prog 312 [] [.agg (sub E h a)] (.bool (gU E a (4^h))) []:=by
 cases e:gU E a (4^h) with
 |true=>rw [fP f e];exact aAR
 |false=>
  cases h with
  |zero=>exact bAC _ _ (by simpa [gU] using e)
  |succ h=>rw [jK e];exact aHR _ _ _ rfl
theorem bQK(v:Int)(m:Nat)(hv:v≠0)(hm:m<8)(f:v<=0->m=0):aM Tryz.prog 343 [] [.agg [bL,.int .i64 v,.int .i64 (m:Int)]] (.bool true) []:=by
 refine cK Tryz.func343 ?_;refine Wk ?_
 rw [show(v != 0)=true by simpa using hv,show decide ((0:Int)<=(m:Int))=true from zdt (by omega),show decide ((m:Int)<=7)=true from zdt (by omega),
  show(bif decide (0<v) then true else(m:Int)==0)=true by
   by_cases e:0<v
   ·rw [zdt e];rfl
   ·rw [f (by omega)];cases decide (0<v)<;> rfl]
 exact Lf
theorem bQ2 {E:dJ} (hE:bI E):∀(h a:Nat),h<=4->aM Tryz.prog 298 [] [.agg (sub E h a),.int .i64 (h:Int)] (.bool true) []:=by
 intro h
 induction h with
 |zero=>
  intro a _
  cases hn:gU E a (4^0) with
  |true=> rw [fP hE hn];refine cK Tryz.func298 ?_;refine cO aAR ?_;exact Lf
  |false=>
   have hv:(E a).1≠0:=by simpa [gU] using hn
   rw [sub];refine cK Tryz.func298 ?_;refine Wk2 (bAC _ _ hv) (bQK _ _ hv (hE.small a) (hE.none a)) ?_;exact Lf
 |succ h ih=>
  intro a hh
  cases hn:gU E a (4^(h+1)) with
  |true=> rw [fP hE hn];refine cK Tryz.func298 ?_;refine cO aAR ?_;exact Lf
  |false=>
   rw [jK hn];generalize hM:((oS E a (4^(h+1)):Nat):Int)=M;refine cK Tryz.func298 ?_;refine cO (aHR (kids E h a) 0 M rfl) ?_
   refine⟨Nat,λi=>i<=4,λi=>⟨[(1,⟨[],true,.int .i64 ((h+1:Nat):Int)⟩),(2,⟨[],true,.ptr 0 0 0⟩),(5,⟨[],true,.int .i64 ((oS E a (i*4^h):Nat):Int)⟩),(6,⟨[],true,.bool (!gU E a (i*4^h))⟩),(25,⟨[],true,.lst 3 false (kids E h a)⟩),(26,⟨[],true,.int .i64 4⟩),(27,⟨[],true,.int .i64 (i:Int)⟩)],[(0,.box [.lst 3 false (kids E h a),.int .i64 0,.int .i64 M])],1⟩,λi=>4-i,⟨0,zH _,?_⟩,λi hI=>?_⟩
   ·refine bU [some ?k79_0] rfl rfl ?h3_79 ?h4_79 ?h5_79 ?h6_79 ?h7_79
    case' h7_79=>repeat' (first |exact trivial |rfl |exact .inl rfl |exact .inr rfl |exact id |exact zbc |apply And.intro)
    case' h4_79=>rfl
    case' h6_79=>rfl
    case' h3_79=>repeat' (first |exact trivial |rfl |exact .inl rfl |exact .inr rfl |exact id |exact zbc |apply And.intro)
    case' h5_79=>repeat' (first |exact trivial |rfl |exact .inl rfl |exact .inr rfl |exact id |exact zbc |apply And.intro)
    all_goals first | (rw [zN];rfl)|skip
   dsimp only at hI⊢;refine Wk ?_;refine aC (λb1=>?_) (λb1=>?_)<;> try simp only [zC,zA,zE,zD,zF] at b1
   ·have b1:i<4:=by simp at b1;omega
    obtain⟨k0,k1,k2,k3,e⟩:=lK hE h (a+i*4^h);have ih':=ih (a+i*4^h) (by omega);have k312:=aTO hE h (a+i*4^h);have hg:=fT E h a i b1;rw [e] at ih' k312 hg;refine Wk ?_;refine aG (⟨rfl,by omega,by show(i:Int)<4;omega⟩) ?_;rw [zI,hg];refine Wk ?_;rw [aP (n:=((h+1:Nat):Int)-1) (by omega) (by omega),show(((h+1:Nat):Int)-1)=(h:Int) by omega];refine cO ih' ?_;rw [fU (sI hE) (sI hE),aBZ];refine cO k312 ?_;rw [aHN,eF (by omega)];refine⟨i+1,by show i+1<=4;omega,?_,by show 4- (i+1)<4-i;omega⟩
    exact Vw [some 0]
   have b1:i=4:=by simp at b1;omega
   subst b1;rw [<-eB,hn];subst hM;refine Wk ?_;rw [beq_self_eq_true];exact Lf
def aI1(i:Nat):List V:= [.int .i64 0,.int .i64 0,.int .i64 (i/4:Nat),.int .i64 (i%4:Nat)]
theorem bQ7(i:Nat)(hi:i<16):aM Tryz.prog 310 [] [.int .i64 (i:Int)] (.agg (aI1 i)) []:=by
 match i,hi with
 |0,_=>exact run_eq E1 40 (by kernel_rfl)
 |1,_=>exact run_eq E1 40 (by kernel_rfl)
 |2,_=>exact run_eq E1 40 (by kernel_rfl)
 |3,_=>exact run_eq E1 40 (by kernel_rfl)
 |4,_=>exact run_eq E1 40 (by kernel_rfl)
 |5,_=>exact run_eq E1 40 (by kernel_rfl)
 |6,_=>exact run_eq E1 40 (by kernel_rfl)
 |7,_=>exact run_eq E1 40 (by kernel_rfl)
 |8,_=>exact run_eq E1 40 (by kernel_rfl)
 |9,_=>exact run_eq E1 40 (by kernel_rfl)
 |10,_=>exact run_eq E1 40 (by kernel_rfl)
 |11,_=>exact run_eq E1 40 (by kernel_rfl)
 |12,_=>exact run_eq E1 40 (by kernel_rfl)
 |13,_=>exact run_eq E1 40 (by kernel_rfl)
 |14,_=>exact run_eq E1 40 (by kernel_rfl)
 |15,_=>exact run_eq E1 40 (by kernel_rfl)
 |n+16,e=>exact absurd e (by omega)
theorem bQ8(i:Nat)(hi:i<16):aM Tryz.prog 311 [] [.agg (aI1 i)] (.int .i64 (htE i:Int)) []:=by
 match i,hi with
 |0,_=>exact run_eq E1 40 (by kernel_rfl)
 |1,_=>exact run_eq E1 40 (by kernel_rfl)
 |2,_=>exact run_eq E1 40 (by kernel_rfl)
 |3,_=>exact run_eq E1 40 (by kernel_rfl)
 |4,_=>exact run_eq E1 40 (by kernel_rfl)
 |5,_=>exact run_eq E1 40 (by kernel_rfl)
 |6,_=>exact run_eq E1 40 (by kernel_rfl)
 |7,_=>exact run_eq E1 40 (by kernel_rfl)
 |8,_=>exact run_eq E1 40 (by kernel_rfl)
 |9,_=>exact run_eq E1 40 (by kernel_rfl)
 |10,_=>exact run_eq E1 40 (by kernel_rfl)
 |11,_=>exact run_eq E1 40 (by kernel_rfl)
 |12,_=>exact run_eq E1 40 (by kernel_rfl)
 |13,_=>exact run_eq E1 40 (by kernel_rfl)
 |14,_=>exact run_eq E1 40 (by kernel_rfl)
 |15,_=>exact run_eq E1 40 (by kernel_rfl)
 |n+16,e=>exact absurd e (by omega)
theorem bPE(i:Nat)(hi:i<16):aM Tryz.prog 235 [] [.int .i64 (i:Int)] (.bool true) []:=by refine cK Tryz.func235 ?_;refine Wk ?_;rw [show decide ((0:Int)<=(i:Int))=true from zdt (by omega),show decide ((i:Int)<=255)=true from zdt (by omega)];exact Lf
def hiB(E:dJ)(h:Nat):Bool:= !gU E (4^h) (3*4^h)
theorem uK {E:dJ} {a n:Nat} (h:gU E a n=true) {b m:Nat} (e:a<=b)(h2:b+m<=a+n):gU E b m=true:= jZ.2 λi f=>by have :=jZ.1 h (b+i-a) (by omega);rwa [show a+(b+i-a)=b+i by omega] at this
theorem bHK {E:dJ} (C:bI E)(h:Nat):aM Tryz.prog 299 [] [.agg (sub E (h+1) 0)] (.bool (hiB E h)) []:=by
 have N:=eB h
 cases F:gU E 0 (4^(h+1)) with
 |true=> rw [fP C F,hiB,uK F (zH _) (by omega)];exact run_eq E1 40 (by kernel_rfl)
 |false=>
  rw [jK F];generalize((oS E 0 (4^(h+1)):Nat):Int)=M;generalize B:hiB E h=q;refine cK Tryz.func299 ?_;refine Wk ?_;refine⟨Nat,λk=>k<=3/\gU E (4^h) (k*4^h)=true,λk=>⟨[(1,⟨[],true,.ptr 0 0 0⟩),(3,⟨[],true,.int .i64 ((k+1:Nat):Int)⟩)],[(0,.box [.lst 3 false (kids E h 0),.int .i64 0,.int .i64 M])],1⟩,λk=>3-k,⟨0,⟨zH _,by rw [zN];rfl⟩,?_⟩,λk J=>?_⟩
  ·exact Vq [some _]
  obtain⟨D,m⟩:=J;dsimp only at D m⊢;refine Wk ?_;rw [show(kids E h 0).length=4 from rfl];refine aC (λz=>?_) (λz=>?_)<;> try simp only [zC,zA,zE,zD,zF] at z
  ·have z:k<3:=by simp at z;omega
   obtain⟨k0,k1,k2,k3,e⟩:=lK C h ((k+1)*4^h);have f:=aTO C h ((k+1)*4^h);have hg:=fT E h 0 (k+1) (by omega);rw [Nat.zero_add] at hg;have H:gU E (4^h) ((k+1)*4^h)=gU E ((k+1)*4^h) (4^h):=by rw [zM,aLR,m,Bool.true_and,Nat.add_comm]
   rw [e] at f hg;refine Wk ?_;refine aG (⟨rfl,by omega,by show((k+1:Nat):Int)<4;omega⟩) ?_;rw [zI,hg];refine cO f ?_;refine aC (λj=>?_) (λj=>?_)<;> try simp only [zC,zA,zE,zD,zF] at j
   ·have j:gU E ((k+1)*4^h) (4^h)=false:=by simpa using j
    have G:q=true:=by
     rw [<-B,hiB]
     cases K:gU E (4^h) (3*4^h) with
     |false=>rfl
     |true=> rw [uK K (by rw [zM];omega) (by have :(k+1)*4^h<=3*4^h:=zG _ (by omega);omega)] at j;cases j
    subst G;refine Wk ?_
    try subst B
    exact Lf
   have j:gU E ((k+1)*4^h) (4^h)=true:=by simpa using j
   refine Wk ?_;rw [eF (by omega)];refine⟨k+1,⟨by show k+1<=3;omega,by show gU E (4^h) ((k+1)*4^h)=true;rw [H];exact j⟩,?_,by show 3- (k+1)<3-k;omega⟩;exact Vw [some 0]
  have z:k=3:=by simp at z;omega
  subst z;have G:q=false:=by rw [<-B,hiB,m];rfl
  subst G;refine Wk ?_
  try subst B
  exact Lf
def bNX(E:dJ)(H:Nat):Prop:=match H with
 |0=>True
 |h+1=>hiB E h=true
theorem bJ8(E:dJ):bNX E (hgt E):=by
 obtain⟨F,e⟩:=mQ E 16;have m:∀i:Fin 16,∀h:Fin 3,htE i.val=h.val+1->4^h.val<=i.val/\i.val<4^(h.val+1)/\i.val≠0:=by decide
 have C:=pV (mxE E 16)
 cases B:hgt E with
 |zero=>exact trivial
 |succ h=>
  unfold hgt at B;obtain⟨z,f,j⟩:=m ⟨mxE E 16,aDG E⟩ ⟨h,by omega⟩ B;have z:4^h<=mxE E 16:=z;have f:mxE E 16<4^(h+1):=f;have j:mxE E 16≠0:=j;show(!gU E (4^h) (3*4^h))=true
  cases D:gU E (4^h) (3*4^h) with
  |false=>rfl
  |true=>
   rw [eB] at f;have :=jZ.1 D (mxE E 16-4^h) (by omega);rw [show 4^h+(mxE E 16-4^h)=mxE E 16 by omega] at this;rcases e with e |e
   ·exact absurd e j
   ·exact absurd this e.2
theorem bPA {E:dJ} (m:bI E)(H:Nat)(z:H<=4)(B:bNX E H):aM Tryz.prog 223 [] [.agg (.int .i64 (H:Int)::sub E H 0)] (.bool true) []:=by
 have f:=bQ2 m H 0 z;obtain⟨k0,k1,k2,k3,e⟩:=lK m H 0
 cases H with
 |zero=> rw [e] at f⊢;refine cK Tryz.func223 ?_;refine cO f ?_;refine .inl ⟨.bool true,λh=>absurd h (by decide),.inr rfl,?_⟩;refine Wk ?_;exact Lf
 |succ h=>
  have j:=bHK m h;rw [show hiB E h=true from B] at j;rw [e] at f j⊢;refine cK Tryz.func223 ?_;refine Wk2 f j ?_;rw [show decide ((0:Int)<=((h+1:Nat):Int))=true from zdt (by omega),show decide (((h+1:Nat):Int)<=4)=true from zdt (by omega),show(bif ((h+1:Nat):Int)==0 then true else true)=true by cases(((h+1:Nat):Int)==0)<;> rfl]
  exact Lf
theorem bKA {E:dJ} (e:bI E):aM Tryz.prog 223 [] [.agg (can E)] (.bool true) []:=bPA e (hgt E) (zO (pV _) (by decide)) (bJ8 E)
def aA7(i h:Nat):Nat:=i/4^h*4^h
theorem aW0(i h:Nat):aA7 i h=aA7 i (h+1)+i/4^h%4*4^h:=by
 unfold aA7;have e1:i/4^(h+1)=i/4^h/4:=by rw [Nat.pow_succ,Nat.div_div_eq_div_mul]
 rw [e1,eB,<-Nat.mul_assoc,<-Nat.add_mul]
 congr 1
 omega
theorem bHM {E:dJ} (z:bI E)(h a:Nat):aM Tryz.prog 313 [] [.lst 3 false (kids E h a)] (.agg (sub E (h+1) a)) []:=by
 have B:(kids E h a).length=4:=rfl;generalize m:sub E (h+1) a=q;refine cK Tryz.func313 ?_;refine Wk ?_
 refine⟨Nat,λi=>i<=4,λi=>⟨[(2,⟨[],true,.ptr 0 0 0⟩),(3,⟨[],true,.ptr 1 0 0⟩),(4,⟨[],true,.bool (!gU E a (i*4^h))⟩),(9,⟨[],true,.lst 3 false (kids E h a)⟩),(10,⟨[],true,.int .i64 4⟩),(11,⟨[],true,.int .i64 (i:Int)⟩)],
  [(0,.box [bL,.int .i64 0,.int .i64 0]),(1,.box [.lst 3 false (kids E h a),.int .i64 0,.int .i64 ((oS E a (i*4^h):Nat):Int)])],2⟩,λi=>4-i,⟨0,zH _,?_⟩,λi D=>?_⟩
 ·dsimp only;rw [zN];exact Vw [some 0,some 1]
 dsimp only at D⊢;refine Wk ?_;refine aC (λj=>?_) (λj=>?_)<;> try simp only [zC,zA,zE,zD,zF] at j
 ·have j:i<4:=by simp at j;omega
  obtain⟨k0,k1,k2,k3,e⟩:=lK z h (a+i*4^h);have f:=aTO z h (a+i*4^h);have hg:=fT E h a i j;rw [e] at f hg;refine Wk ?_;refine aG (⟨rfl,by omega,by rw [B];omega⟩) ?_;rw [zI,hg];refine Wk ?_;rw [fU (sI z) (sI z),aBZ];refine cO f ?_;rw [aHN,eF (by omega)];refine⟨i+1,by show i+1<=4;omega,?_,by show 4- (i+1)<4-i;omega⟩;exact Vw [some 0,some 1]
 have j:i=4:=by simp at j;omega
 subst j;rw [<-eB]
 cases C:gU E a (4^(h+1)) with
 |true=>
  rw [fP z C] at m;subst m;refine Wk ?_
  try subst m
  exact Lf
 |false=>
  rw [jK C] at m;subst m;refine Wk ?_
  try subst m
  exact Lf
theorem bHP {E:dJ} (D:bI E):∀(h a:Nat),aM Tryz.prog 347 [] [.agg (sub E h a)] (.agg (sub E h a)) []:=by
 intro h
 induction h with
 |zero=>
  intro a;rw [sub];generalize(E a).1=v;generalize((E a).2:Int)=m;refine cK Tryz.func347 ?_;refine Wk ?_;refine⟨Unit,λ_=>True,λ_=>⟨[(1,⟨[],true,.ptr 0 0 0⟩),(2,⟨[],true,.ptr 1 0 0⟩),(9,⟨[],true,bL⟩),(10,⟨[],true,.int .i64 0⟩),(11,⟨[],true,.int .i64 0⟩)],[(0,.box [bL,.int .i64 v,.int .i64 m]),(1,.box [bL,.int .i64 0,.int .i64 0])],2⟩,λ_=>0,⟨(),trivial,?_⟩,λ_ _=>?_⟩
  ·exact Vw [some 0,some 1]
  refine Wk ?_;exact Lf
 |succ h H=>
  intro a
  cases F:gU E a (4^(h+1)) with
  |true=>
   rw [fP D F];refine cK Tryz.func347 ?_;refine Wk ?_;refine⟨Unit,λ_=>True,λ_=>⟨[(1,⟨[],true,.ptr 0 0 0⟩),(2,⟨[],true,.ptr 1 0 0⟩),(9,⟨[],true,bL⟩),(10,⟨[],true,.int .i64 0⟩),(11,⟨[],true,.int .i64 0⟩)],[(0,.box mt),(1,.box [bL,.int .i64 0,.int .i64 0])],2⟩,λ_=>0,⟨(),trivial,?_⟩,λ_ _=>?_⟩
   ·exact Vw [some 0,some 1]
   refine Wk ?_;exact Lf
  |false=>
   rw [jK F];generalize((oS E a (4^(h+1)):Nat):Int)=M;have z:(kids E h a).length=4:=rfl;refine cK Tryz.func347 ?_;refine Wk ?_
   refine⟨Nat,λi=>i<=4,λi=>⟨[(1,⟨[],true,.ptr 0 0 0⟩),(2,⟨[],true,.ptr 1 0 0⟩),(9,⟨[],true,.lst 3 false (kids E h a)⟩),(10,⟨[],true,.int .i64 4⟩),(11,⟨[],true,.int .i64 (i:Int)⟩)],
    [(0,.box [.sl 2 0 i,.int .i64 0,.int .i64 M]),(1,.box [bL,.int .i64 0,.int .i64 0]),(2,.row 3 ((kids E h a).take i))],3⟩,λi=>4-i,⟨0,zH _,?_⟩,λi G=>?_⟩
   ·exact Vw [some 0,some 1,none]
   dsimp only at G⊢;have f:((kids E h a).take i).length=i:=by rw [zJ,z];omega
   refine Wk ?_;refine aC (λj=>?_) (λj=>?_)<;> try simp only [zC,zA,zE,zD,zF] at j
   ·have j:i<4:=by simp at j;omega
    obtain⟨k0,k1,k2,k3,e⟩:=lK D h (a+i*4^h);have C:=H (a+i*4^h);have hg:=fT E h a i j;have B:(kids E h a).take (i+1)=(kids E h a).take i++ [sub E h (a+i*4^h)]:=by rw [aEV [] (by rw [z];exact j),fT E h a i j]
    rw [e] at C hg B;refine Wk ?_;refine aG (⟨rfl,by omega,by rw [z];omega⟩) ?_;rw [zI,hg];refine cO C ?_;refine⟨f.symm,by rw [f];show((i+1:Nat):Int)<=_;omega,by rw [f];show(i+1)*40<=_;omega,?_⟩;refine Wk ?_;rw [eF (by omega)];refine⟨i+1,by show i+1<=4;omega,?_,by show 4- (i+1)<4-i;omega⟩;dsimp only;rw [B];refine bU [some 0,some 1,some 7248] rfl rfl ?_ rfl ?_ rfl ?_
    repeat' (first |exact trivial |rfl |exact .inl rfl |exact .inr rfl |exact id |exact zbc |apply And.intro)
    show((kids E h a).take i).length+1=_;rw [f]
   have j:i=4:=by simp at j;omega
   subst j;refine Wk ?_;refine⟨[],trivial,rfl,trivial,rfl,?_⟩
   repeat' (first |exact trivial |rfl |exact .inl rfl |exact .inr rfl |exact id |exact zbc |apply And.intro)
   exact zK 4
theorem aJU {E e:dJ} {a:Nat} :∀ {n:Nat},(∀j,a<=j->j<a+n->E j=e j)->gU E a n=gU e a n
 |0,_=>rfl
 |n+1,h=>by rw [gU,gU,aJU (λj f h2=>h j f (by omega)),h (a+n) (by omega) (by omega)]
theorem aJY {E e:dJ} {a:Nat} :∀ {n:Nat},(∀j,a<=j->j<a+n->E j=e j)->oS E a n=oS e a n
 |0,_=>rfl
 |n+1,h=>by rw [oS,oS,aJY (λj f h2=>h j f (by omega)),h (a+n) (by omega) (by omega)]
theorem sub_congr {E m:dJ} :∀ {h a:Nat},(∀j,a<=j->j<a+4^h->E j=m j)->sub E h a=sub m h a
 |0,a,e=>by rw [sub,sub,e a (zK _) (by simp)]
 |h+1,a,e=>by
  have z:=eB h
  rw [sub,sub,aJU e,aJY e,sub_congr (h:=h) (a:=a) (λj f h2=>e j f (by omega)),sub_congr (h:=h) (a:=a+4^h) (λj f h2=>e j (by omega) (by omega)),
   sub_congr (h:=h) (a:=a+2*4^h) (λj f h2=>e j (by omega) (by omega)),sub_congr (h:=h) (a:=a+3*4^h) (λj f h2=>e j (by omega) (by omega))]
def oD(E:dJ)(h a k:Nat):List (List V):=(kids E h a).take k++List.replicate (4-k) mt
theorem aJO(E:dJ)(h a k:Nat)(e:k<=4):(oD E h a k).length=4:=by have :(kids E h a).length=4:=rfl;rw [oD,List.length_append,zJ,List.length_replicate];omega
theorem aJN(E:dJ)(h a k:Nat)(e:k<4):(oD E h a k).getD k []=mt:=by
 match k,e with
 |0,_=>rfl
 |1,_=>rfl
 |2,_=>rfl
 |3,_=>rfl
theorem aJP(E:dJ)(h a k:Nat)(e:k<4):(oD E h a k).set k (sub E h (a+k*4^h))=oD E h a (k+1):=by
 have f:(kids E h a).length=4:=rfl
 rw [oD,oD,aEV [] (by omega),fT E h a k e,List.set_append_right _ _ (by rw [zJ];omega),zJ,show k-min k (kids E h a).length=0 by omega,
  show 4-k=(3-k)+1 by omega,List.replicate_succ,List.set_cons_zero,List.append_assoc,List.singleton_append,show 4- (k+1)=3-k by omega]
theorem aT0(E:dJ)(h a:Nat):oD E h a 4=kids E h a:=rfl
theorem bQ9 {E:dJ} (hE:bI E)(i:Nat)(hi:i<16)(v:Int)(m:Nat)(N:bI (eH E i (v,m))):∀(h:Nat),h<=2->
 aM Tryz.prog 314 [] [.agg (sub E h (aA7 i h)),.int .i64 (h:Int),.agg (aI1 i),.agg [bL,.int .i64 v,.int .i64 (m:Int)]] (.agg (sub (eH E i (v,m)) h (aA7 i h))) []:=by
 intro h
 induction h with
 |zero=>
  intro _;have l1:aA7 i 0=i:=by unfold aA7;simp
  rw [l1,sub,sub,fV];unfold aI1;refine eT (ob0:= []) [.s 58] Tryz.func314 rfl rfl rfl rfl ?_;refine Wk ?_
  try subst hk
  exact Lf
 |succ h ih=>
  intro hh;have W:=ih (by omega);have Z:=aW0 i h;have hd:i/4^h%4<4:=Nat.mod_lt _ (by decide);have ae:aA7 i h<=i/\i<aA7 i h+4^h:=by have :=Nat.div_add_mod i (4^h);have :=Nat.mod_lt i (zP (n:=4^h) (by simp));unfold aA7;rw [Nat.mul_comm];omega
  have H:=bHM N h (aA7 i (h+1))
  have Q:∀k,k<4->k≠i/4^h%4->sub E h (aA7 i (h+1)+k*4^h)=sub (eH E i (v,m)) h (aA7 i (h+1)+k*4^h):=λk hk ad=>sub_congr λj h1 h2=>by
   rw [eZ];rintro rfl;rcases Nat.lt_or_gt_of_ne ad with aa |aa
   ·have :(k+1)*4^h<=j/4^h%4*4^h:=zG _ aa;rw [zM] at this;omega
   ·have :(j/4^h%4+1)*4^h<=k*4^h:=zG _ aa;rw [zM] at this;omega
  generalize hD:i/4^h%4=D at Z hd Q;generalize hA:aA7 i (h+1)=A at Z H Q;generalize eH E i (v,m)=K at W H Q N;obtain⟨q0,q1,q2,q3,e'⟩:=lK N (h+1) A;rw [e'] at H⊢
  cases hn:gU E A (4^(h+1)) with
  |true=>
   rw [fP hE hn];unfold aI1;refine eT (ob0:= []) [.s 58] Tryz.func314 rfl rfl rfl rfl ?_;refine cO aAR ?_
   refine⟨Nat,λk=>k<=4,λk=>⟨[(1,⟨[],true,.int .i64 ((h+1:Nat):Int)⟩),(4,⟨[],true,.ptr 0 0 0⟩),(6,⟨[],true,.ptr 1 0 0⟩),(7,⟨[],true,.ptr 2 0 0⟩),(8,⟨[],true,.ptr 3 0 0⟩),(9,⟨[],true,.sl 4 0 4⟩),(16,⟨[],true,.int .i64 4⟩),(17,⟨[],true,.int .i64 (k:Int)⟩)],
    [(0,.box [bL,.int .i64 0,.int .i64 0]),(1,.box [.int .i64 0,.int .i64 0,.int .i64 (i/4:Nat),.int .i64 (i%4:Nat)]),(2,.box [bL,.int .i64 v,.int .i64 (m:Int)]),(3,.box [bL,.int .i64 0,.int .i64 0]),(4,.row 3 (oD K h A k))],5⟩,λk=>4-k,⟨0,zH _,?_⟩,λk hI=>?_⟩
   ·exact Vw [some 0,some 1,some 2,some 3,some 4]
   dsimp only at hI⊢;have T:=aJO K h A k hI;refine Wk ?_;refine aC (λe=>?_) (λe=>?_)<;> try simp only [zC,zA,zE,zD,zF] at e
   ·have e:k<4:=by simp at e;omega
    obtain⟨k0,k1,k2,k3,e1⟩:=lK hE h (A+k*4^h);have ac:=fP hE (uK hn (show A<=A+k*4^h by omega) (show A+k*4^h+4^h<=A+4^(h+1) by have :(k+1)*4^h<=4*4^h:=zG _ (by omega);rw [zM] at this;rw [eB];omega));refine cO aAR ?_;have f:=aJN K h A k e;rw [<-ac,e1] at f;obtain⟨R,Y⟩:∃R,oD K h A k=R:=⟨_,rfl⟩;have O:∀x,R.set k x=(oD K h A k).set k x:=λ_=>by rw [Y]
    rw [Y] at f⊢;have C:R.length=4:=by rw [<-Y];exact T
    clear Y;rw [aP (n:=4- ((h+1:Nat):Int)) (by omega) (by omega),show decide (0<=4- ((h+1:Nat):Int)/\4- ((h+1:Nat):Int)< ((4:Nat):Int))=true from zdt ⟨by omega,by omega⟩];have J:=bHP hE h (A+k*4^h);rw [e1] at J;obtain⟨p0,p1,p2,p3,e3⟩:=lK N h (A+k*4^h);have F:=aJP K h A k e;rw [e3] at F;have G:(h=0->i%4=D)/\(h=1->i/4=D):=⟨λh0=>by subst h0;rw [<-hD];simp,λh0=>by subst h0;omega⟩;obtain rfl |rfl:h=0\/h=1:=by omega
    all_goals
     refine Wk ?_;refine aC (λB=>?_) (λB=>?_)<;> try simp only [zC,zA,zE,zD,zF] at B
     ·have B:k=D:=by
       have B:=zbe.1 B
       first | (have :=G.1 rfl;omega)| (have :=G.2 rfl;omega)
      subst B;rw [Z,e1,e3] at W;refine Wk ?_;refine⟨λ_=>⟨by omega,by omega⟩,?_⟩;refine Wk ?_;refine⟨λ_=>by rw [C];omega,by omega,?_⟩;rw [show 0+(k:Int).toNat=k by omega,f];refine cO W ?_;refine⟨λ_=>⟨by omega,by omega⟩,?_⟩;refine Wk ?_;rw [show 0+(k:Int).toNat=k by omega,f,C];refine⟨e,by omega,?_⟩;refine Wk ?_;rw [eF (by omega)];refine⟨k+1,by show k+1<=4;omega,?_,by show 4- (k+1)<4-k;omega⟩;dsimp only;rw [<-F]
      refine bU [some 0,some 1,some 2,some 3,some 4] rfl rfl ?_ rfl ?_ rfl ?_
      repeat' (first |exact trivial |rfl |exact .inl rfl |exact .inr rfl |exact id |exact zbc |apply And.intro)
      exact O _
     have B:k≠D:=by
      have B:=zbn.1 B;intro b3;apply B
      first | (have :=G.1 rfl;omega)| (have :=G.2 rfl;omega)
     have z:=Q k e B;rw [e1,e3] at z;refine Wk ?_;rw [show decide (0<=(k:Int)/\(k:Int)< ((4:Nat):Int))=true from zdt ⟨by omega,by omega⟩];refine Wk ?_;rw [show 0+(k:Int).toNat=k by omega,show decide (k<R.length)=true from zdt (by rw [C];exact e),f];refine cO J ?_;rw [show decide (0<=(k:Int)/\(k:Int)< ((4:Nat):Int))=true from zdt ⟨by omega,by omega⟩];refine Wk ?_
     rw [show 0+(k:Int).toNat=k by omega,show decide (k<R.length)=true from zdt (by rw [C];exact e),f];refine Wk ?_;rw [eF (by omega)];refine⟨k+1,by show k+1<=4;omega,?_,by show 4- (k+1)<4-k;omega⟩;rw [<-z] at F;dsimp only;rw [<-F];refine bU [some 0,some 1,some 2,some 3,some 4] rfl rfl ?_ rfl ?_ rfl ?_
     repeat' (first |exact trivial |rfl |exact .inl rfl |exact .inr rfl |exact id |exact zbc |apply And.intro)
     exact O _
   have e:k=4:=by simp at e;omega
   subst e;rw [aT0];refine Wk ?_;refine⟨Unit,λ_=>True,λ_=>⟨[(8,⟨[],true,.ptr 0 0 0⟩),(58,⟨[],true,.lst 3 false (kids K h A)⟩)],[(0,.box [bL,.int .i64 0,.int .i64 0])],1⟩,?_,λ_ _=>?_⟩
   ·refine Wk ?_;refine⟨(),trivial,?_⟩;refine bU [some 3] rfl rfl ?_ rfl ?_ rfl ?_
    repeat' (first |exact trivial |rfl |exact .inl rfl |exact .inr rfl |exact id |exact zbc |apply And.intro)
    exact zK 4
   refine cO H ?_
   try subst hk
   exact Lf
  |false=>
   rw [jK hn];generalize((oS E A (4^(h+1)):Nat):Int)=M;have ab:(kids E h A).length=4:=rfl;unfold aI1;refine eT (ob0:= []) [.s 58] Tryz.func314 rfl rfl rfl rfl ?_;refine cO (aHR (kids E h A) 0 M rfl) ?_
   refine⟨Nat,λk=>k<=4,λk=>⟨[(1,⟨[],true,.int .i64 ((h+1:Nat):Int)⟩),(4,⟨[],true,.ptr 0 0 0⟩),(6,⟨[],true,.ptr 1 0 0⟩),(7,⟨[],true,.ptr 2 0 0⟩),(8,⟨[],true,.ptr 3 0 0⟩),(9,⟨[],true,.sl 4 0 4⟩),(16,⟨[],true,.int .i64 4⟩),(17,⟨[],true,.int .i64 (k:Int)⟩)],
    [(0,.box [.lst 3 false (kids E h A),.int .i64 0,.int .i64 M]),(1,.box [.int .i64 0,.int .i64 0,.int .i64 (i/4:Nat),.int .i64 (i%4:Nat)]),(2,.box [bL,.int .i64 v,.int .i64 (m:Int)]),(3,.box [bL,.int .i64 0,.int .i64 0]),(4,.row 3 (oD K h A k))],5⟩,λk=>4-k,⟨0,zH _,?_⟩,λk hI=>?_⟩
   ·exact Vw [some 0,some 1,some 2,some 3,some 4]
   dsimp only at hI⊢;have T:=aJO K h A k hI;refine Wk ?_;refine aC (λe=>?_) (λe=>?_)<;> try simp only [zC,zA,zE,zD,zF] at e
   ·have e:k<4:=by simp at e;omega
    obtain⟨k0,k1,k2,k3,e1⟩:=lK hE h (A+k*4^h);have hg:=fT E h A k e;rw [e1] at hg;refine cO (aHR (kids E h A) 0 M rfl) ?_;refine aG (⟨rfl,by omega,by rw [ab];omega⟩) ?_;rw [zI,hg];refine Wk ?_;rw [show decide (0<=(k:Int)/\(k:Int)< ((4:Nat):Int))=true from zdt ⟨by omega,by omega⟩];refine Wk ?_;rw [show 0+(k:Int).toNat=k by omega,show decide (k< (oD K h A k).length)=true from zdt (by rw [T];exact e)];refine Wk ?_;rw [aJN K h A k e]
    obtain⟨R,Y⟩:∃R,(oD K h A k).set k (aS 3 mt 0 [.lst k0 k1 k2,.int .i64 k3,.int .i64 ((oS E (A+k*4^h) (4^h):Nat):Int)])=R:=⟨_,rfl⟩;rw [Y];have C:R.length=4:=by rw [<-Y,List.length_set];exact T
    have f:R.getD k []=[.lst k0 k1 k2,.int .i64 k3,.int .i64 ((oS E (A+k*4^h) (4^h):Nat):Int)]:=by rw [<-Y];simp [List.getD_eq_getElem?_getD,T,e];rfl
    have O:∀x,R.set k x=(oD K h A k).set k x:=λx=>by rw [<-Y,List.set_set]
    clear Y;rw [aP (n:=4- ((h+1:Nat):Int)) (by omega) (by omega),show decide (0<=4- ((h+1:Nat):Int)/\4- ((h+1:Nat):Int)< ((4:Nat):Int))=true from zdt ⟨by omega,by omega⟩];have J:=bHP hE h (A+k*4^h);rw [e1] at J;obtain⟨p0,p1,p2,p3,e3⟩:=lK N h (A+k*4^h);have F:=aJP K h A k e;rw [e3] at F;have G:(h=0->i%4=D)/\(h=1->i/4=D):=⟨λh0=>by subst h0;rw [<-hD];simp,λh0=>by subst h0;omega⟩;obtain rfl |rfl:h=0\/h=1:=by omega
    all_goals
     refine Wk ?_;refine aC (λB=>?_) (λB=>?_)<;> try simp only [zC,zA,zE,zD,zF] at B
     ·have B:k=D:=by
       have B:=zbe.1 B
       first | (have :=G.1 rfl;omega)| (have :=G.2 rfl;omega)
      subst B;rw [Z,e1,e3] at W;refine Wk ?_;refine⟨λ_=>⟨by omega,by omega⟩,?_⟩;refine Wk ?_;refine⟨λ_=>by rw [C];omega,by omega,?_⟩;rw [show 0+(k:Int).toNat=k by omega,f];refine cO W ?_;refine⟨λ_=>⟨by omega,by omega⟩,?_⟩;refine Wk ?_;rw [show 0+(k:Int).toNat=k by omega,f,C];refine⟨e,by omega,?_⟩;refine Wk ?_;rw [eF (by omega)];refine⟨k+1,by show k+1<=4;omega,?_,by show 4- (k+1)<4-k;omega⟩;dsimp only;rw [<-F]
      refine bU [some 0,some 1,some 2,some 3,some 4] rfl rfl ?_ rfl ?_ rfl ?_
      repeat' (first |exact trivial |rfl |exact .inl rfl |exact .inr rfl |exact id |exact zbc |apply And.intro)
      exact O _
     have B:k≠D:=by
      have B:=zbn.1 B;intro b3;apply B
      first | (have :=G.1 rfl;omega)| (have :=G.2 rfl;omega)
     have z:=Q k e B;rw [e1,e3] at z;refine Wk ?_;rw [show decide (0<=(k:Int)/\(k:Int)< ((4:Nat):Int))=true from zdt ⟨by omega,by omega⟩];refine Wk ?_;rw [show 0+(k:Int).toNat=k by omega,show decide (k<R.length)=true from zdt (by rw [C];exact e),f];refine cO J ?_;rw [show decide (0<=(k:Int)/\(k:Int)< ((4:Nat):Int))=true from zdt ⟨by omega,by omega⟩];refine Wk ?_
     rw [show 0+(k:Int).toNat=k by omega,show decide (k<R.length)=true from zdt (by rw [C];exact e),f];refine Wk ?_;rw [eF (by omega)];refine⟨k+1,by show k+1<=4;omega,?_,by show 4- (k+1)<4-k;omega⟩;rw [<-z] at F;dsimp only;rw [<-F];refine bU [some 0,some 1,some 2,some 3,some 4] rfl rfl ?_ rfl ?_ rfl ?_
     repeat' (first |exact trivial |rfl |exact .inl rfl |exact .inr rfl |exact id |exact zbc |apply And.intro)
     exact O _
   have e:k=4:=by simp at e;omega
   subst e;rw [aT0];refine Wk ?_;refine⟨Unit,λ_=>True,λ_=>⟨[(8,⟨[],true,.ptr 0 0 0⟩),(58,⟨[],true,.lst 3 false (kids K h A)⟩)],[(0,.box [bL,.int .i64 0,.int .i64 0])],1⟩,?_,λ_ _=>?_⟩
   ·refine Wk ?_;refine⟨(),trivial,?_⟩;refine bU [some 3] rfl rfl ?_ rfl ?_ rfl ?_
    repeat' (first |exact trivial |rfl |exact .inl rfl |exact .inr rfl |exact id |exact zbc |apply And.intro)
    exact zK 4
   refine cO H ?_
   try subst hk
   exact Lf
theorem aFS {i h:Nat} (hi:i<16)(f:h<=2):htE i<=h↔i<4^h:=by
 have e:∀i:Fin 16,∀h:Fin 3,htE i.val<=h.val↔i.val<4^h.val:=by decide
 exact e ⟨i,hi⟩ ⟨h,by omega⟩
theorem aQX {E:dJ} {h:Nat} (f:h<=2)(m:∀j,4^h<=j->j<16->(E j).1=0):hgt E<=h:=by
 unfold hgt;rw [aFS (aDG E) f];rcases(mQ E 16).2 with e |e
 ·rw [e];exact zP (by simp)
 ·by_cases h2:mxE E 16<4^h
  ·exact h2
  ·exact absurd (m _ (by omega) e.1) e.2
theorem bJ9 {E:dJ} {h:Nat} (hi:hiB E h=true)(C:h<=1):h+1<=hgt E:=by
 refine Nat.not_lt.1 λF=>?_
 have m:∀j,4^h<=j->j<16->(E j).1=0:=λj B h2=>by
  by_cases e:(E j).1=0
  ·exact e
  ·have z:=(mQ E 16).1 j h2 e;have f:htE (mxE E 16)<=h:=by unfold hgt at F;omega
   rw [aFS (aDG E) (by omega)] at f;omega
 have G:4^h+3*4^h<=16:=by rcases(show h=0\/h=1 by omega) with rfl |rfl <;> decide
 rw [hiB,show gU E (4^h) (3*4^h)=true from jZ.2 λk D=>m _ (by omega) (by omega)] at hi;cases hi
theorem bDI {E:dJ} (m:bI E) {h:Nat} (B:∀j,4^h<=j->(E j).1=0):kids E h 0=[sub E h 0,mt,mt,mt]:=by have e:∀k,1<=k->sub E h (0+k*4^h)=mt:=λk z=>fP m (jZ.2 λj _=>B _ (by have :1*4^h<=k*4^h:=zG _ z;omega));have f:=e 1 (by omega);rw [Nat.one_mul] at f;rw [kids,f,e 2 (by omega),e 3 (by omega)]
theorem bPF {E:dJ} (J:bI E)(hs:Sup E)(i:Nat)(hi:i<16)(v:Int)(m:Nat)(B:bI (eH E i (v,m))):
 aM Tryz.prog 237 [] [.agg (can E),.int .i64 (i:Int),.agg [bL,.int .i64 v,.int .i64 (m:Int)]] (.agg (can (eH E i (v,m)))) []:=by
 have N:=bQ7 i hi;have O:=bQ8 i hi;have W:=hs.set hi (v,m);have aj:=pV i;have af:=pV (mxE E 16);have ad:=aBJ hs;have G:=λh hh=>bQ9 J i hi v m B h hh;unfold aI1 at N O G;obtain⟨k0,k1,k2,k3,e⟩:=lK J (hgt E) 0;unfold can;have ac:∀j,j≠i->eH E i (v,m) j=E j:=λj h=>eZ h;generalize eH E i (v,m)=z at B W G ac;rw [e];generalize D:V.agg (.int .i64 (hgt z:Int)::sub z (hgt z) 0)=ai;refine eT (ob0:= []) [.s 24] Tryz.func237 rfl rfl rfl rfl ?_;refine cO N ?_
 refine⟨Nat,λh=>h<=2/\hgt E<=h,λh=>⟨[(3,⟨[],true,.ptr 0 0 0⟩),(5,⟨[],true,.ptr 1 0 0⟩),(6,⟨[],true,.ptr 2 0 0⟩),(7,⟨[],true,.ptr 3 0 0⟩)],
  [(0,.box (.int .i64 (h:Int)::sub E h 0)),(1,.box [bL,.int .i64 v,.int .i64 (m:Int)]),(2,.box [.int .i64 0,bL,.int .i64 0,.int .i64 0]),(3,.box [.int .i64 0,.int .i64 0,.int .i64 (i/4:Nat),.int .i64 (i%4:Nat)])],4⟩,λh=>2-h,⟨hgt E,⟨af,zK _⟩,?_⟩,λh hI=>?_⟩
 ·dsimp only;rw [e];exact Vw [some 0,some 1,some 2,some 3]
 obtain⟨C,aa⟩:=hI;dsimp only at C aa⊢;have hz:∀j,4^h<=j->(E j).1=0:=λj hj=>ad j (zO (zL (by decide) aa) hj);obtain⟨r0,r1,r2,r3,e1⟩:=lK J h 0;rw [e1];have Q:=aTO J h 0;rw [e1] at Q;refine cO O ?_;refine aC (λZ=>?_) (λZ=>?_)<;> try simp only [zC,zA,zE,zD,zF] at Z
 ·have Z:h<htE i:=by simp at Z;omega
  have R:=bHM J h 0;obtain⟨s0,s1,s2,s3,e2⟩:=lK J (h+1) 0;rw [e2] at R;have ab:=bDI J hz;rw [e1] at ab;refine cO Q ?_;refine aC (λb2=>?_) (λb2=>?_)<;> try simp only [zC,zA,zE,zD,zF] at b2
  ·refine Wk ?_
   refine⟨Unit,λ_=>True,λ_=>⟨[(3,⟨[],true,.ptr 0 0 0⟩),(5,⟨[],true,.ptr 1 0 0⟩),(6,⟨[],true,.ptr 2 0 0⟩),(7,⟨[],true,.ptr 3 0 0⟩),(24,⟨[],true,.lst 3 false (kids E h 0)⟩)],
    [(0,.box [.int .i64 (h:Int),.lst r0 r1 r2,.int .i64 r3,.int .i64 ((oS E 0 (4^h):Nat):Int)]),(1,.box [bL,.int .i64 v,.int .i64 (m:Int)]),(2,.box [.int .i64 0,bL,.int .i64 0,.int .i64 0]),(3,.box [.int .i64 0,.int .i64 0,.int .i64 (i/4:Nat),.int .i64 (i%4:Nat)])],4⟩,?_,λ_ _=>?_⟩
   ·refine Wk ?_;refine⟨(),trivial,?_⟩;refine bU [some 0,some 1,some 2,some 3] rfl rfl ?_ rfl ?_ rfl ?_
    repeat' (first |exact trivial |rfl |exact .inl rfl |exact .inr rfl |exact id |exact zbc |apply And.intro)
    ·exact zK 4
    ·rw [ab];rfl
   refine cO R ?_;rw [eF (by omega)];refine⟨h+1,⟨by show h+1<=2;omega,by show hgt E<=h+1;omega⟩,?_,by show 2- (h+1)<2-h;omega⟩;dsimp only;rw [e2];exact Vw [some 0,some 1,some 2,some 3]
  have b2:gU E 0 (4^h)=true:=by simpa using b2
  have T:sub E (h+1) 0=sub E h 0:=by
   rw [fP J b2,fP J]
   exact jZ.2 λj _=>by
    by_cases h0:j<4^h
    ·exact jZ.1 b2 j h0
    ·exact hz _ (by omega)
  refine Wk ?_;rw [eF (by omega)];refine⟨h+1,⟨by show h+1<=2;omega,by show hgt E<=h+1;omega⟩,?_,by show 2- (h+1)<2-h;omega⟩;dsimp only;rw [T,e1];exact Vw [some 0,some 1,some 2,some 3]
 have Z:htE i<=h:=by simp at Z;omega
 have ag:aA7 i h=0:=by unfold aA7;rw [Nat.div_eq_of_lt ((aFS hi C).1 Z),zN]
 have H:=G h C;obtain⟨t0,t1,t2,t3,e3⟩:=lK B h 0;rw [ag,e1,e3] at H;refine cO H ?_;refine⟨Nat,λg=>g<=2/\hgt z<=g,λg=>⟨[(3,⟨[],true,.ptr 0 0 0⟩),(6,⟨[],true,.ptr 1 0 0⟩)],[(0,.box (.int .i64 (g:Int)::sub z g 0)),(1,.box [.int .i64 0,bL,.int .i64 0,.int .i64 0])],2⟩,λg=>g,⟨h,⟨C,?_⟩,?_⟩,λg hg=>?_⟩
 ·exact aQX C λj h1 h2=>by rw [ac j (by have :=(aFS hi C).1 Z;omega)];exact hz j h1
 ·dsimp only;rw [e3];exact Vw [some 0,some 2]
 obtain⟨ae,K⟩:=hg;dsimp only at ae K⊢
 cases g with
 |zero=> obtain⟨u0,u1,u2,u3,e4⟩:=lK B 0 0;rw [show hgt z=0 by omega,e4] at D;rw [e4];subst D;refine Wk ?_;refine .inl ⟨.bool true,λh=>absurd h (by decide),.inr rfl,?_⟩;refine Wk ?_;exact Lf
 |succ g=>
  have f:=bHK B g
  cases hn:gU z 0 (4^(g+1)) with
  |true=>
   rw [fP B hn] at f⊢;have hb:hiB z g=false:=by rw [hiB,uK hn (zH _) (by rw [eB];omega)];rfl
   rw [hb] at f
   have Y:hgt z<=g:=aQX (by omega) λj h1 h2=>by
    by_cases h3:j<4^(g+1)
    ·have :=jZ.1 hn j h3;rwa [Nat.zero_add] at this
    ·exact aBJ W j (zO (zL (by decide) K) (by omega))
   have T:sub z g 0=mt:=fP B (uK hn (zH _) (by rw [eB];omega));refine Wk2 f aAR ?_;rw [show decide ((0:Int)< ((g+1:Nat):Int))=true from zdt (by omega)];refine Wk2 f aAR ?_;rw [aP (n:=((g+1:Nat):Int)-1) (by omega) (by omega),show((g+1:Nat):Int)-1=(g:Int) by omega];refine⟨g,⟨by show g<=2;omega,Y⟩,?_,Nat.lt_succ_self g⟩;dsimp only;rw [T];exact Vw [some 0,some 1]
  |false=>
   obtain⟨u0,u1,u2,u3,e4⟩:=lK B g 0;have F:g+1=hgt z->V.agg [.int .i64 ((g+1:Nat):Int),.lst 3 false (kids z g 0),.int .i64 0,.int .i64 (oS z 0 (4^(g+1)):Nat)]=ai:=λhq=>by rw [<-D,<-hq,jK hn]
   rw [jK hn] at f⊢;generalize((oS z 0 (4^(g+1)):Nat):Int)=M at f F⊢;refine cO f ?_;rw [show decide ((0:Int)< ((g+1:Nat):Int))=true from zdt (by omega)]
   cases hb:hiB z g with
   |true=> have hr:=F (Nat.le_antisymm (bJ9 hb (by omega)) K);subst hr;refine Wk ?_;exact Lf
   |false=>
    have Y:hgt z<=g:=aQX (by omega) λj h1 h2=>by
     by_cases h3:j<4^(g+1)
     ·have ah:gU z (4^g) (3*4^g)=true:=by unfold hiB at hb;simpa using hb
      rw [eB] at h3;have :=jZ.1 ah (j-4^g) (by omega)
      rwa [show 4^g+(j-4^g)=j by omega] at this
     ·exact aBJ W j (zO (zL (by decide) K) (by omega))
    refine cO (aHR (kids z g 0) 0 M rfl) ?_;rw [show(kids z g 0).getD (Int.toNat 0) []=sub z g 0 from rfl,e4];refine Wk ?_;rw [aP (n:=((g+1:Nat):Int)-1) (by omega) (by omega),show((g+1:Nat):Int)-1=(g:Int) by omega];refine⟨g,⟨by show g<=2;omega,Y⟩,?_,Nat.lt_succ_self g⟩;dsimp only;rw [e4];exact Vw [some 0,some 1]
theorem bOQ {E:dJ} (B:bI E)(D:Sup E)(i:Nat)(hi:i<16)(v:Int):aM Tryz.prog 148 [] [.agg (can E),.int .i64 (i:Int),.int .i64 v] (.tup [.agg (can (eH E i (v,0))),.int .i64 0]) []:=by have m:bI (eH E i (v,0)):=B.set (Nat.zero_lt_succ _) (λ_=>rfl);have f:=bKA B;have j:=bPF B D i hi v 0 m;have z:=bPE i hi;obtain⟨k0,k1,k2,k3,e⟩:=cH B;obtain⟨F,q1,q2,G,C⟩:=cH m;rw [e] at f;rw [e,C] at j;rw [e,C];refine cK Tryz.func148 ?_;refine Wk3 f z j ?_;exact Lf
end Go.Proofs.YtmhapcbjjpadnaaGreat
