/- Caches. -/
import Derived.Test.YtmhapcbjjpadnaaGreatG8c
import Derived.Test.YtmhapcbjjpadnaaGreatG7c
set_option linter.all false
set_option maxRecDepth 40000
open Bool renaming cond_false_right→zA,cond_true_left→zD,not_eq_false'→zE,not_eq_true'→zF,not_not→zG,and_eq_true→zR
open Int renaming toNat_natCast→zC,natCast_mul→zO
open List renaming getD_eq_getElem?_getD→zH,length_append→zK,cons_ne_nil→zM,getElem?_eq_getElem→zQ,append_nil→zT,length_filter_le→zU,append_assoc→zW,not_mem_nil→zY,getElem_mem→yA
open Nat renaming mul_le_mul_right→zI,add_assoc→zJ,zero_le→zL,pow_le_pow_right→zN,zero_mul→zP,zero_add→zS,succ_mul→zV,add_zero→zX,le_refl→yC
open Option renaming getD_some→zZ
namespace Go.Proofs.YtmhapcbjjpadnaaGreat
open Go Go.Sk Go.RowKit
abbrev dJ:=Nat->Int×Nat
structure bI(E:dJ):Prop where
 small:∀i,(E i).2<8
 none:∀i,(E i).1<=0->(E i).2=0
def gU(E:dJ)(at_:Nat):Nat->Bool
 |0=>true
 |n+1=>gU E at_ n&&(E (at_+n)).1==0
def oS(E:dJ)(at_:Nat):Nat->Nat
 |0=>0
 |n+1=>oS E at_ n ||| (E (at_+n)).2
theorem jZ {E:dJ} {a:Nat} :∀ {n:Nat},gU E a n=true↔∀i,i<n->(E (a+i)).1=0
 |0=>by simp [gU]
 |n+1=>by
  simp only [gU,zR,jZ (n:=n),zbe];refine⟨λh i hi=>?_,λh=>⟨λi hi=>h i (by omega),h n (by omega)⟩⟩
  by_cases e:i=n
  ·subst e;exact h.2
  ·exact h.1 i (by omega)
theorem aLR {E:dJ} {a m:Nat} :∀ {n:Nat},gU E a (m+n)=(gU E a m&&gU E (a+m) n)
 |0=>by simp [gU]
 |n+1=>by rw [<-zJ];simp only [gU];rw [aLR (n:=n),zJ,Bool.and_assoc]
theorem aTR {E:dJ} {a m:Nat} :∀ {n:Nat},oS E a (m+n)=oS E a m ||| oS E (a+m) n
 |0=>by simp [oS]
 |n+1=>by rw [<-zJ];simp only [oS];rw [aTR (n:=n),zJ,Nat.or_assoc]
theorem sI {E:dJ} (h:bI E) {a:Nat} :∀ {n:Nat},oS E a n<8
 |0=>Nat.zero_lt_succ _
 |n+1=>Nat.or_lt_two_pow (n:=3) (sI h (n:=n)) (h.small _)
theorem bAI {E:dJ} (h:bI E) {a:Nat} :∀ {n:Nat},gU E a n=true->oS E a n=0
 |0,_=>rfl
 |n+1,e=>by simp only [gU,zR,zbe] at e;rw [oS,bAI h e.1,h.none _ (by omega)];rfl
def mt:List V:= [bL,.int .i64 0,.int .i64 0]
def sub(E:dJ):Nat->Nat->List V
 |0,a=> [bL,.int .i64 (E a).1,.int .i64 ((E a).2:Int)]
 |h+1,a=>bif gU E a (4^(h+1)) then mt else
   [.lst 3 false [sub E h a,sub E h (a+4^h),sub E h (a+2*4^h),sub E h (a+3*4^h)],.int .i64 0,.int .i64 (oS E a (4^(h+1)):Nat)]
def kids(E:dJ)(h a:Nat):List (List V):= [sub E h a,sub E h (a+4^h),sub E h (a+2*4^h),sub E h (a+3*4^h)]
theorem fP {E:dJ} (j:bI E):∀ {h a:Nat},gU E a (4^h)=true->sub E h a=mt
 |0,a,e=>by
  have f:(E a).1=0:=by simpa [gU] using e
  rw [sub,f,j.none a (by omega)];rfl
 |h+1,a,e=>by rw [sub,e];rfl
theorem jK {E:dJ} {h a:Nat} (e:gU E a (4^(h+1))=false):sub E (h+1) a=[.lst 3 false (kids E h a),.int .i64 0,.int .i64 (oS E a (4^(h+1)):Nat)]:=by rw [sub,e];rfl
theorem fT(E:dJ)(h a i:Nat)(hi:i<4):(kids E h a).getD i []=sub E h (a+i*4^h):=by
 match i,hi with
 |0,_=>simp [kids]
 |1,_=>simp [kids]
 |2,_=>rfl
 |3,_=>rfl
theorem aDJ:aM Tryz.prog 340 [] [.agg mt] (.bool true) []:=by refine cK Tryz.func340 ?_;refine Wk ?_;exact Lf
theorem aHT(v m:Int)(hv:v≠0):aM Tryz.prog 340 [] [.agg [bL,.int .i64 v,.int .i64 m]] (.bool false) []:=by
 have hv:(v==0)=false:=by simpa using hv
 refine cK Tryz.func340 ?_;refine Wk ?_;rw [hv];refine Wk ?_;exact Lf
theorem aHS(f:List (List V))(v m:Int)(e:f.length=4):aM Tryz.prog 340 [] [.agg [.lst 3 false f,.int .i64 v,.int .i64 m]] (.bool false) []:=by
 refine cK Tryz.func340 ?_;refine Wk ?_;rw [e];refine Wk ?_
 try subst e
 exact Lf
theorem bQJ {E:dJ} (f:bI E)(h a:Nat):aM Tryz.prog 340 [] [.agg (sub E h a)] (.bool (gU E a (4^h))) []:=by
 cases e:gU E a (4^h) with
 |true=>rw [fP f e];exact aDJ
 |false=>
  cases h with
  |zero=>exact aHT _ _ (by simpa [gU] using e)
  |succ h=>rw [jK e];exact aHS _ _ _ rfl
theorem aOX(h:Nat)(e:h<=4):aM Tryz.prog 341 [] [.int .i64 (h:Int)] (.int .i64 ((4^h:Nat):Int)) []:=by
 match h,e with
 |0,_=>exact run_eq E1 40 (by kernel_rfl)
 |1,_=>exact run_eq E1 40 (by kernel_rfl)
 |2,_=>exact run_eq E1 40 (by kernel_rfl)
 |3,_=>exact run_eq E1 40 (by kernel_rfl)
 |4,_=>exact run_eq E1 40 (by kernel_rfl)
def htE(i:Nat):Nat:=bif Nat.beq i 0 then 0 else bif Nat.blt i 4 then 1 else 2
theorem bHJ(i:Nat)(hi:i<16):aM Tryz.prog 295 [] [.int .i64 (i:Int)] (.int .i64 (htE i:Int)) []:=by
 match i,hi with
 |0,_=>exact run_eq E1 40 (by kernel_rfl)
 |1,_=>exact run_eq E1 40 (by kernel_rfl)
 |2,_=>exact run_eq E1 40 (by kernel_rfl)
 |3,_=>exact run_eq E1 40 (by kernel_rfl)
 |4,_=>exact run_eq E1 40 (by kernel_rfl)
 |5,_=>exact run_eq E1 40 (by kernel_rfl)
 |6,_=>exact run_eq E1 40 (by kernel_rfl)
 |7,_=>exact run_eq E1 40 (by kernel_rfl)
 |8,_=>exact run_eq E1 40 (by kernel_rfl)
 |9,_=>exact run_eq E1 40 (by kernel_rfl)
 |10,_=>exact run_eq E1 40 (by kernel_rfl)
 |11,_=>exact run_eq E1 40 (by kernel_rfl)
 |12,_=>exact run_eq E1 40 (by kernel_rfl)
 |13,_=>exact run_eq E1 40 (by kernel_rfl)
 |14,_=>exact run_eq E1 40 (by kernel_rfl)
 |15,_=>exact run_eq E1 40 (by kernel_rfl)
 |n+16,e=>exact absurd e (by omega)
theorem fU {x y:Nat} (f:x<8)(j:y<8):gC .or .i64 (x:Int) (y:Int)=((x ||| y:Nat):Int):=by
 have e:∀a:Fin 8,∀b:Fin 8,gC .or .i64 (a.val:Int) (b.val:Int)=((a.val ||| b.val:Nat):Int):=by decide
 exact e ⟨x,f⟩ ⟨y,j⟩
theorem eB(h:Nat):4^(h+1)=4*4^h:=by rw [Nat.pow_succ,Nat.mul_comm]
theorem lK {E:dJ} (f:bI E)(h a:Nat):∃k n xs v,sub E h a=[.lst k n xs,.int .i64 v,.int .i64 (oS E a (4^h):Nat)]:=by
 cases e:gU E a (4^h) with
 |true=>rw [fP f e,bAI f e];exact⟨_,_,_,_,rfl⟩
 |false=>
  cases h with
  |zero=>exact⟨0,true,[],(E a).1,by rw [sub];simp [oS,bL]⟩
  |succ h=>rw [jK e];exact⟨_,_,_,_,rfl⟩
theorem aBZ(E:dJ)(a q i:Nat):oS E a (i*q)||| oS E (a+i*q) q=oS E a ((i+1)*q):=by rw [zV,aTR]
theorem aHN(E:dJ)(a q i:Nat):(bif !gU E a (i*q) then true else !gU E (a+i*q) q)= !gU E a ((i+1)*q):=by rw [zV,aLR];cases gU E a (i*q)<;> simp
theorem bQ0 {E:dJ} (hE:bI E):∀(h a:Nat),h<=4->aM Tryz.prog 294 [] [.agg (sub E h a),.int .i64 (h:Int)] (.bool true) []:=by
 intro h
 induction h with
 |zero=>
  intro a _
  cases hn:gU E a (4^0) with
  |true=> rw [fP hE hn];refine cK Tryz.func294 ?_;refine cO aDJ ?_;exact Lf
  |false=>
   have hv:(E a).1≠0:=by simpa [gU] using hn
   have hm:=hE.small a;have hz:=hE.none a;rw [sub];generalize(E a).1=v at hv hz;generalize(E a).2=m at hm hz;refine cK Tryz.func294 ?_;refine cO (aHT v m hv) ?_
   rw [show(v != 0)=true by simpa using hv,show decide ((0:Int)<=(m:Int))=true from zdt (by omega),show decide ((m:Int)<=7)=true from zdt (by omega),
    show(bif decide (0<v) then true else(m:Int)==0)=true by
     by_cases h0:0<v
     ·rw [zdt h0];rfl
     ·rw [hz (by omega)];cases decide (0<v)<;> rfl]
   exact Lf
 |succ h ih=>
  intro a hh
  cases hn:gU E a (4^(h+1)) with
  |true=> rw [fP hE hn];refine cK Tryz.func294 ?_;refine cO aDJ ?_;exact Lf
  |false=>
   rw [jK hn];generalize hM:((oS E a (4^(h+1)):Nat):Int)=M;refine cK Tryz.func294 ?_;refine cO (aHS (kids E h a) 0 M rfl) ?_;refine⟨Nat,λi=>i<=4,λi=>⟨[(1,⟨[],true,.int .i64 ((h+1:Nat):Int)⟩),(2,⟨[],true,.ptr 0 0 0⟩),(5,⟨[],true,.int .i64 ((oS E a (i*4^h):Nat):Int)⟩),(6,⟨[],true,.bool (!gU E a (i*4^h))⟩),(7,⟨[],true,.int .i64 (i:Int)⟩)],[(0,.box [.lst 3 false (kids E h a),.int .i64 0,.int .i64 M])],1⟩,λi=>4-i,⟨0,zL _,?_⟩,λi hI=>?_⟩
   ·refine bU [some ?k74_0] rfl rfl ?h3_74 ?h4_74 ?h5_74 ?h6_74 ?h7_74
    case' h7_74=>repeat' (first |exact trivial |rfl |exact .inl rfl |exact .inr rfl |exact id |exact zbc |apply And.intro)
    case' h4_74=>rfl
    case' h6_74=>rfl
    case' h3_74=>repeat' (first |exact trivial |rfl |exact .inl rfl |exact .inr rfl |exact id |exact zbc |apply And.intro)
    case' h5_74=>repeat' (first |exact trivial |rfl |exact .inl rfl |exact .inr rfl |exact id |exact zbc |apply And.intro)
    all_goals first | (rw [zP];rfl)|skip
   dsimp only at hI⊢;refine Wk ?_;refine aC (λb1=>?_) (λb1=>?_)<;> try simp only [zD,zA,zF,zE,zG] at b1
   ·have b1:i<4:=by simp at b1;omega
    obtain⟨k0,k1,k2,k3,e⟩:=lK hE h (a+i*4^h);have ih':=ih (a+i*4^h) (by omega);have k340:=bQJ hE h (a+i*4^h);have hg:=fT E h a i b1;rw [e] at ih' k340 hg;refine Wk ?_;refine aG (⟨rfl,by omega,by show(i:Int)<4;omega⟩) ?_;rw [zC,hg];refine Wk ?_;rw [aP (n:=((h+1:Nat):Int)-1) (by omega) (by omega),show(((h+1:Nat):Int)-1)=(h:Int) by omega];refine cO ih' ?_;refine aG (⟨rfl,by omega,by show(i:Int)<4;omega⟩) ?_;rw [zC,hg];refine Wk ?_;rw [fU (sI hE) (sI hE),aBZ];refine Wk ?_
    refine kE (λ_=>⟨rfl,by omega,by show(i:Int)<4;omega⟩) ?_;rw [zC,hg];refine cO k340 ?_;rw [aHN,eF (by omega)];refine⟨i+1,by show i+1<=4;omega,?_,by show 4- (i+1)<4-i;omega⟩;exact Vw [some 0]
   have b1:i=4:=by simp at b1;omega
   subst b1;rw [<-eB,hn];subst hM;refine Wk ?_;rw [beq_self_eq_true];exact Lf
def bQ(E:dJ)(a:Nat):Nat->List Nat
 |0=> []
 |n+1=>bQ E a n++(bif (E (a+n)).1==0 then [] else [a+n])
def pZ(E:dJ)(i:Nat):List V:= [.int .i64 (i:Int),.int .i64 (E i).1,.int .i64 ((E i).2:Int)]
def bO(E:dJ)(l:List Nat):List (List V):=l.map (pZ E)
theorem aR(E:dJ)(l:List Nat):(bO E l).length=l.length:=List.length_map _
theorem aOB {E:dJ} {a m:Nat} :∀ {n:Nat},bQ E a (m+n)=bQ E a m++bQ E (a+m) n
 |0=>by simp [bQ]
 |n+1=>by rw [<-zJ];simp only [bQ];rw [aOB (n:=n),zJ,zW]
theorem vJ {E:dJ} {a:Nat} :∀ {n:Nat},gU E a n=true->bQ E a n=[]
 |0,_=>rfl
 |n+1,h=>by simp only [gU,zR] at h;rw [bQ,vJ h.1,h.2];rfl
theorem mM(E:dJ)(a:Nat):∀n,(bQ E a n).length<=n
 |0=>yC 0
 |n+1=>by have :=mM E a n;rw [bQ,zK];cases((E (a+n)).1==0)<;> simp <;> omega
theorem aD6(E:dJ)(a q i:Nat):bQ E a ((i+1)*q)=bQ E a (i*q)++bQ E (a+i*q) q:=by rw [zV,aOB]
theorem aFX {h:Nat} (e:h<=4):4^h<=256:=zN (by decide) e
theorem bHI {E:dJ} (z:bI E):∀(h a:Nat),h<=4->a+4^h<=256->∀l:List Nat,l.length+4^h<=100000->
 FnM Tryz.prog 293 [.row 3 (bO E l)] [.sl 0 0 l.length,.agg (sub E h a),.int .i64 (h:Int),.int .i64 (a:Int)] (.sl 0 0 (l++bQ E a (4^h)).length) [.row 3 (bO E (l++bQ E a (4^h)))]:=by
 intro h
 induction h with
 |zero=>
  intro a _ G l N
  cases f:gU E a (4^0) with
  |true=> rw [fP z f,vJ f,zT];refine aFQ (ob0:= [.row 3 (bO E l)]) [] Tryz.func293 rfl rfl rfl rfl ?_;refine cO aDJ ?_;exact⟨[some 0],Cl,rfl,Cl,rfl,Cl⟩
  |false=>
   have D:(E a).1≠0:=by simpa [gU] using f
   have J:bQ E a (4^0)=[a]:=by show []++(bif (E (a+0)).1==0 then [] else [a+0])=[a];rw [zX,show((E a).1==0)=false by simpa using D];rfl
   rw [sub,J];refine aFQ (ob0:= [.row 3 (bO E l)]) [] Tryz.func293 rfl rfl rfl rfl ?_;refine cO (aHT _ _ D) ?_;refine aG (aR E l).symm (cA (by rw [aR];show((l.length+1:Nat):Int)<=_;omega) (by rw [aR];show(l.length+1)*24<=_;omega) ?_);refine Wk ?_;refine⟨[some 3],?_,rfl,?_,rfl,?_⟩
   all_goals repeat' (first |exact trivial |rfl |exact .inl rfl |exact .inr rfl |exact id |exact zbc |apply And.intro)
   ·show bO E l++ [pZ E a]=_;simp [bO]
   ·show(bO E l).length+1=_;rw [aR,zK];rfl
 |succ h O=>
  intro a H G l N
  cases f:gU E a (4^(h+1)) with
  |true=> rw [fP z f,vJ f,zT];refine aFQ (ob0:= [.row 3 (bO E l)]) [] Tryz.func293 rfl rfl rfl rfl ?_;refine cO aDJ ?_;exact⟨[some 0],Cl,rfl,Cl,rfl,Cl⟩
  |false=>
   rw [jK f];generalize((oS E a (4^(h+1)):Nat):Int)=M;have Q:=aFX (h:=h+1) H;have B:=eB h;refine aFQ (ob0:= [.row 3 (bO E l)]) [] Tryz.func293 rfl rfl rfl rfl ?_;refine cO (aHS (kids E h a) 0 M rfl) ?_
   refine⟨Nat,λi=>i<=4,λi=>⟨[(0,⟨[],true,.sl 0 0 (l++bQ E a (i*4^h)).length⟩),(2,⟨[],true,.int .i64 ((h+1:Nat):Int)⟩),(3,⟨[],true,.int .i64 (a:Int)⟩),(5,⟨[],true,.ptr 1 0 0⟩),(9,⟨[],true,.int .i64 (i:Int)⟩)],[(0,.row 3 (bO E (l++bQ E a (i*4^h)))),(1,.box [.lst 3 false (kids E h a),.int .i64 0,.int .i64 M])],2⟩,λi=>4-i,⟨0,zL _,?_⟩,λi F=>?_⟩
   ·dsimp only;rw [zP,bQ,zT];exact Vw [some 0,some 1]
   dsimp only at F⊢;refine Wk ?_;refine aC (λj=>?_) (λj=>?_)<;> try simp only [zD,zA,zF,zE,zG] at j
   ·have j:i<4:=by simp at j;omega
    have K:i*4^h<=3*4^h:=zI _ (by omega);obtain⟨k0,k1,k2,k3,e⟩:=lK z h (a+i*4^h);have C:=mM E a (i*4^h);have m:=O (a+i*4^h) (by omega) (by omega) (l++bQ E a (i*4^h)) (by rw [zK];omega);have hg:=fT E h a i j;rw [e] at m hg;refine Wk ?_;refine⟨λ_=>⟨rfl,by omega,by show(i:Int)<4;omega⟩,?_⟩;rw [zC,hg];refine Wk ?_;rw [aP (n:=((h+1:Nat):Int)-1) (by omega) (by omega),show(((h+1:Nat):Int)-1)=(h:Int) by omega];refine cO (aOX h (by omega)) ?_
    rw [show(i:Int)*((4^h:Nat):Int)=((i*4^h:Nat):Int) from(zO _ _).symm,aP (n:=((i*4^h:Nat):Int)) (by omega) (by omega)];refine Wk ?_;rw [aP (n:=(a:Int)+((i*4^h:Nat):Int)) (by omega) (by omega),show(a:Int)+((i*4^h:Nat):Int)=((a+i*4^h:Nat):Int) from(Int.natCast_add _ _).symm];refine Wk ?_;refine .mov ⟨λ_=>⟨[0],_,_,_,m,⟨rfl,trivial⟩,rfl,rfl,?_⟩,(by intro h;cases h)⟩
    refine Wk ?_;rw [eF (by omega)];refine⟨i+1,by show i+1<=4;omega,?_,by show 4- (i+1)<4-i;omega⟩;dsimp only;rw [aD6,<-zW];exact Vw [some 9456,some 1]
   have j:i=4:=by simp at j;omega
   subst j;rw [<-B];refine Wk ?_;exact⟨[some 0],Cl,rfl,Cl,rfl,Cl⟩
def aW1(E:dJ)(l:List Nat):V:=match l with
 | []=>bL
 |i::r=>.lst 3 false (bO E (i::r))
theorem aSY {E:dJ} {a:Nat} :∀ {n:Nat},gU E a n=false->bQ E a n≠ []
 |0,h=>by cases h
 |n+1,h=>by
  rw [bQ]
  cases hv:((E (a+n)).1==0) with
  |false=>simp
  |true=> rw [gU,hv,Bool.and_true] at h;simpa using aSY h
theorem vN {E:dJ} {l:List Nat} (h:l≠ []):aW1 E l=.lst 3 false (bO E l):=by
 cases l with
 |nil=>exact absurd rfl h
 |cons i r=>rfl
theorem bAB {E:dJ} (z:bI E)(h:Nat)(G:h<=4):aM Tryz.prog 293 [] [bL,.agg (sub E h 0),.int .i64 (h:Int),.int .i64 0] (aW1 E (bQ E 0 (4^h))) []:=by
 cases j:gU E 0 (4^h) with
 |true=> rw [fP z j,vJ j];refine cK Tryz.func293 ?_;refine cO aDJ ?_;exact Lf
 |false=>
  rw [vN (aSY j)]
  cases h with
  |zero=>
   have D:(E 0).1≠0:=by simpa [gU] using j
   have H:bQ E 0 (4^0)=[0]:=by show []++(bif (E (0+0)).1==0 then [] else [0+0])=[0];rw [zX,show((E 0).1==0)=false by simpa using D];rfl
   rw [sub,H];refine cK Tryz.func293 ?_;refine cO (aHT _ _ D) ?_;refine⟨[],trivial,rfl,trivial,rfl,?_⟩
   repeat' (first |exact trivial |rfl |exact .inl rfl |exact .inr rfl |exact id |exact zbc |apply And.intro)
   all_goals first |rfl |exact yC 1
  |succ h=>
   rw [jK j];generalize((oS E 0 (4^(h+1)):Nat):Int)=M;have K:=aFX (h:=h+1) G;have B:=eB h;refine cK Tryz.func293 ?_;refine cO (aHS (kids E h 0) 0 M rfl) ?_;refine⟨Nat,λi=>i<=4,λi=>⟨[(0,⟨[],true,.sl 0 0 (bQ E 0 (i*4^h)).length⟩),(2,⟨[],true,.int .i64 ((h+1:Nat):Int)⟩),(3,⟨[],true,.int .i64 0⟩),(5,⟨[],true,.ptr 1 0 0⟩),(9,⟨[],true,.int .i64 (i:Int)⟩)],[(0,.row 3 (bO E (bQ E 0 (i*4^h)))),(1,.box [.lst 3 false (kids E h 0),.int .i64 0,.int .i64 M])],2⟩,λi=>4-i,⟨0,zL _,?_⟩,λi F=>?_⟩
   ·dsimp only;rw [zP,bQ];exact Vw [none,some 0]
   dsimp only at F⊢;refine Wk ?_;refine aC (λf=>?_) (λf=>?_)<;> try simp only [zD,zA,zF,zE,zG] at f
   ·have f:i<4:=by simp at f;omega
    have J:i*4^h<=3*4^h:=zI _ (by omega);have C:=mM E 0 (i*4^h);have hg:=fT E h 0 i f;rw [zS] at hg;obtain⟨k0,k1,k2,k3,e⟩:=lK z h (i*4^h);have m:=bHI z h (i*4^h) (by omega) (by omega) (bQ E 0 (i*4^h)) (by omega);rw [e] at m hg;refine Wk ?_;refine⟨λ_=>⟨rfl,by omega,by show(i:Int)<4;omega⟩,?_⟩;rw [zC,hg];refine Wk ?_;rw [aP (n:=((h+1:Nat):Int)-1) (by omega) (by omega),show(((h+1:Nat):Int)-1)=(h:Int) by omega];refine cO (aOX h (by omega)) ?_
    rw [show(i:Int)*((4^h:Nat):Int)=((i*4^h:Nat):Int) from(zO _ _).symm,aP (n:=((i*4^h:Nat):Int)) (by omega) (by omega)];refine Wk ?_;rw [aP (n:=(0:Int)+((i*4^h:Nat):Int)) (by omega) (by omega),Int.zero_add];refine Wk ?_;refine .mov ⟨λ_=>⟨[0],_,_,_,m,⟨rfl,trivial⟩,rfl,rfl,?_⟩,(by intro h;cases h)⟩
    refine Wk ?_;rw [eF (by omega)];refine⟨i+1,by show i+1<=4;omega,?_,by show 4- (i+1)<4-i;omega⟩;dsimp only;rw [aD6,zS (i*4^h)];exact Vw [some 9456,some 1]
   have f:i=4:=by simp at f;omega
   subst f;rw [<-B];refine Wk ?_;refine⟨[],trivial,rfl,trivial,rfl,?_⟩
   repeat' (first |exact trivial |rfl |exact .inl rfl |exact .inr rfl |exact id |exact zbc |apply And.intro)
   ·rw [aR];omega
   ·exact cF rfl (aR _ _)
def aHE(l:List Nat):Nat:=l.getD (l.length-1) 0
def bBE(l:List Nat)(h:Nat):Prop:=match l with
 | []=>h=0
 |l=>htE (aHE l)=h
theorem lZ(E:dJ)(l:List Nat)(k:Nat)(h:k<l.length):(bO E l).getD k []=pZ E (l.getD k 0):=by simp [bO,zH,h]
theorem lF {E:dJ} {a i:Nat} :∀ {n:Nat},i∈bQ E a n↔a<=i/\i<a+n/\(E i).1≠0
 |0=>by simp [bQ];omega
 |n+1=>by
  rw [bQ,List.mem_append,lF (n:=n)]
  cases hv:((E (a+n)).1==0) with
  |true=>
   have hv:(E (a+n)).1=0:=by simpa using hv
   simp only [zct,zY,or_false];refine⟨λh=>⟨h.1,by omega,h.2.2⟩,λh=>⟨h.1,?_,h.2.2⟩⟩
   by_cases e:i=a+n
   ·subst e;exact absurd hv h.2.2
   ·omega
  |false=>
   have hv:(E (a+n)).1≠0:=by simpa using hv
   simp only [zcf,List.mem_singleton];refine⟨λh=>?_,λh=>?_⟩
   ·rcases h with h |rfl
    ·exact⟨h.1,by omega,h.2.2⟩
    ·exact⟨by omega,by omega,hv⟩
   ·by_cases e:i=a+n
    ·exact .inr e
    ·exact .inl ⟨h.1,by omega,h.2.2⟩
theorem bA6 {E:dJ} (D:bI E)(h:Nat)(J:h<=2)(C:bBE (bQ E 0 (4^h)) h):aM Tryz.prog 218 [] [.agg (.int .i64 (h:Int)::sub E h 0)] (.bool true) []:=by
 have M:4^h<=16:=zN (n:=4) (by decide) J;have B:=bQ0 D h 0 (by omega);have f:=bAB D h (by omega);obtain⟨k0,k1,k2,k3,e⟩:=lK D h 0;have m:=mM E 0 (4^h);have z:∀i∈bQ E 0 (4^h),i<16:=λi K=>by have :=(lF.1 K).2.1;omega
 rw [e] at B f⊢;generalize bQ E 0 (4^h)=l at C f m z;refine cK Tryz.func218 ?_;refine Wk2 B f ?_;refine aC (λH=>?_) (λH=>?_)<;> try simp only [zD,zA,zF,zE,zG] at H
 ·simp at H;omega
 clear H;refine cO f ?_
 cases l with
 |nil=> obtain rfl:h=0:=C;refine Wk ?_;exact Lf
 |cons x r=>
  have F:0< (x::r).length:=Nat.zero_lt_succ _;have G:aHE (x::r)<16:=z _ (by unfold aHE;simp only [zH,show(x::r).length-1< (x::r).length by omega,zQ,zZ];exact yA _);have C:htE (aHE (x::r))=h:=C;have j:=bHJ _ G;rw [C] at j;rw [vN (zM x r)];unfold aHE at j;generalize x::r=l at F j m⊢;refine Wk ?_;rw [aR,show((l.length:Int)==0)=false from zbn.2 (by omega)];refine Wk ?_
  rw [aR,aP (n:=(l.length:Int)-1) (by omega) (by omega),show(l.length:Int)-1=((l.length-1:Nat):Int) by omega];refine⟨λ_=>⟨rfl,by omega,by omega⟩,?_⟩;rw [zC,lZ E l _ (by omega)];refine cO j ?_;rw [beq_self_eq_true];exact Lf
def mT(i:Int):List Nat->Nat->Int
 | [],_=> -1
 |x::r,k=>bif (x:Int)==i then(k:Int) else mT i r (k+1)
theorem aI2 {i:Int} :∀ {l:List Nat} {k:Nat},(0<=mT i l k->(k:Int)<=mT i l k/\mT i l k<k+l.length/\((l.getD ((mT i l k).toNat-k) 0:Nat):Int)=i)/\(mT i l k<0->∀x∈l,(x:Int)≠i)
 | [],k=>⟨λh=>by simp [mT] at h,λ_ x f=>absurd f zY⟩
 |y::r,k=>by
  rw [mT]
  cases e:((y:Int)==i) with
  |true=>
   have e:(y:Int)=i:=by simpa using e
   refine⟨λ_=>⟨Int.le_refl _,by simp;omega,by simpa using e⟩,λh=>?_⟩;simp only [zct] at h;omega
  |false=>
   have e:(y:Int)≠i:=by simpa using e
   obtain⟨m,h2⟩:=aI2 (i:=i) (l:=r) (k:=k+1);simp only [zcf];refine⟨λh=>?_,λh x f=>?_⟩
   ·obtain⟨z,B,j⟩:=m h;refine⟨by omega,by simp only [List.length_cons];omega,?_⟩;rw [show(mT i r (k+1)).toNat-k=((mT i r (k+1)).toNat- (k+1))+1 by omega];exact j
   ·rcases List.mem_cons.1 f with rfl |f
    ·exact e
    ·exact h2 h x f
theorem bH6(E:dJ)(l:List Nat)(i:Int)(D:l.length<=100000):aM Tryz.prog 217 [] [aW1 E l,.int .i64 i] (.int .i64 (mT i l 0)) []:=by
 cases l with
 |nil=>
  refine cK Tryz.func217 ?_;refine Wk ?_;refine⟨Unit,λ_=>True,λ_=>⟨[(0,⟨[],true,bL⟩),(1,⟨[],true,.int .i64 i⟩),(5,⟨[],true,.int .i64 0⟩)],[],0⟩,λ_=>0,⟨(),trivial,?_⟩,λ_ _=>?_⟩
  ·exact Vw []
  refine Wk ?_
  try subst j
  exact Lf
 |cons x r=>
  rw [vN (zM x r)];generalize x::r=l at D⊢;generalize j:mT i l 0=q;refine cK Tryz.func217 ?_;refine Wk ?_;refine⟨Nat,λk=>k<=l.length/\mT i (l.drop k) k=q,λk=>⟨[(0,⟨[],true,.lst 3 false (bO E l)⟩),(1,⟨[],true,.int .i64 i⟩),(5,⟨[],true,.int .i64 (k:Int)⟩)],[],0⟩,λk=>l.length-k,⟨0,⟨zL _,j⟩,?_⟩,λk C=>?_⟩
  ·exact Vw []
  obtain⟨m,e⟩:=C;dsimp only at m e⊢;refine Wk ?_;rw [aR];refine aC (λf=>?_) (λf=>?_)<;> try simp only [zD,zA,zF,zE,zG] at f
  ·have f:k<l.length:=by simp at f;omega
   have z:mT i (l.drop k) k=bif ((l.getD k 0:Nat):Int)==i then(k:Int) else mT i (l.drop (k+1)) (k+1):=by rw [List.drop_eq_getElem_cons f,mT,show l.getD k 0=l[k] by simp [zH,f]]
   rw [z] at e;refine Wk ?_;refine aG (⟨rfl,by omega,by rw [aR];omega⟩) ?_;rw [zC,lZ E l k f];refine Wk ?_;refine aC (λB=>?_) (λB=>?_)<;> try simp only [zD,zA,zF,zE,zG] at B
   ·rw [B,zct] at e;subst e;refine Wk ?_
    try subst j
    exact Lf
   rw [B,zcf] at e;refine Wk ?_;rw [eF (by omega)];refine⟨k+1,⟨by show k+1<=_;omega,e⟩,?_,by show l.length- (k+1)<l.length-k;omega⟩;exact Vw []
  have f:k=l.length:=by simp at f;omega
  subst f;rw [List.drop_length,mT] at e;subst e;refine Wk ?_
  try subst j
  exact Lf
theorem bH5 {E:dJ} (m:bI E)(h:Nat)(z:h<=2)(B:bBE (bQ E 0 (4^h)) h):aM Tryz.prog 216 [] [.agg (.int .i64 (h:Int)::sub E h 0)] (aW1 E (bQ E 0 (4^h))) []:=by
 have j:=bA6 m h z B;have f:=bAB m h (by omega);obtain⟨k0,k1,k2,k3,e⟩:=lK m h 0;rw [e] at j f⊢;generalize bQ E 0 (4^h)=l at f⊢
 cases l with
 |nil=> refine cK Tryz.func216 ?_;refine Wk2 j f ?_;exact Lf
 |cons x r=> rw [vN (zM x r)] at f⊢;generalize x::r=l at f⊢;refine cK Tryz.func216 ?_;refine Wk2 j f ?_;exact Lf
def aDY(E:dJ)(i:Int):Int:=bif decide (0<=i) then(E i.toNat).1 else 0
theorem bOI {E:dJ} (H:bI E)(h:Nat)(J:h<=2)(R:bBE (bQ E 0 (4^h)) h)(Q:∀i,4^h<=i->(E i).1=0)(i:Int):aM Tryz.prog 117 [] [.agg (.int .i64 (h:Int)::sub E h 0),.int .i64 i] (.int .i64 (aDY E i)) []:=by
 have W:4^h<=16:=zN (n:=4) (by decide) J;have f:=bH5 H h J R;have K:=mM E 0 (4^h);have j:=bH6 E (bQ E 0 (4^h)) i (by omega);obtain⟨B,C⟩:=aI2 (i:=i) (l:=bQ E 0 (4^h)) (k:=0)
 have D:mT i (bQ E 0 (4^h)) 0<0->aDY E i=0:=λO=>by
  unfold aDY
  by_cases G:0<=i
  ·rw [zdt G,zct]
   by_cases T:i.toNat<4^h
   ·by_cases h2:(E i.toNat).1=0
    ·exact h2
    ·exact absurd (by omega) (C O i.toNat (lF.2 ⟨by omega,by omega,h2⟩))
   ·exact Q _ (by omega)
  ·rw [zdf G];rfl
 have m:0<=mT i (bQ E 0 (4^h)) 0->(E ((bQ E 0 (4^h)).getD (mT i (bQ E 0 (4^h)) 0).toNat 0)).1=aDY E i:=λO=>by obtain⟨M,N,F⟩:=B O;rw [Nat.sub_zero] at F;unfold aDY;rw [zdt (show 0<=i by omega),zct];generalize(bQ E 0 (4^h)).getD (mT i (bQ E 0 (4^h)) 0).toNat 0=y at F;rw [show i.toNat=y by omega]
 obtain⟨k0,k1,k2,k3,e⟩:=lK H h 0;rw [e] at f⊢;generalize bQ E 0 (4^h)=l at *;generalize aDY E i=q at *;clear C
 cases l with
 |nil=> rw [D (show(-1:Int)<0 by decide)];refine cK Tryz.func117 ?_;refine Wk2 f j ?_;exact Lf
 |cons x r=>
  rw [vN (zM x r)] at f j;generalize x::r=l at *;generalize mT i l 0=p at *;refine cK Tryz.func117 ?_;refine Wk2 f j ?_;refine aC (λz=>?_) (λz=>?_)<;> try simp only [zD,zA,zF,zE,zG] at z
  ·have z:0<=p:=by simpa using z
   obtain⟨M,N,F⟩:=B z;obtain⟨n,rfl⟩:∃n:Nat,p=n:=⟨p.toNat,by omega⟩;have m:=m z;rw [zC] at m;refine Wk ?_;refine aG (⟨rfl,by omega,by rw [aR];omega⟩) ?_;rw [zC,lZ E l n (by omega)];refine Wk ?_;rw [m];exact Lf
  have z:p<0:=by simpa using z
  rw [D z];refine Wk ?_;exact Lf
theorem bKH {E:dJ} (z:bI E)(h:Nat)(G:h<=4)(C:gU E 0 (4^h)=false):aM Tryz.prog 293 [] [bL,.agg (sub E h 0),.int .i64 (h:Int),.int .i64 0] (.sl 0 0 (bQ E 0 (4^h)).length) [.row 3 (bO E (bQ E 0 (4^h)))]:=by
 cases h with
 |zero=>
  have D:(E 0).1≠0:=by simpa [gU] using C
  have H:bQ E 0 (4^0)=[0]:=by show []++(bif (E (0+0)).1==0 then [] else [0+0])=[0];rw [zX,show((E 0).1==0)=false by simpa using D];rfl
  rw [sub,H];refine cK Tryz.func293 ?_;refine cO (aHT _ _ D) ?_;exact⟨[some 2],Cl,rfl,Cl,rfl,Cl⟩
 |succ h=>
  rw [jK C];generalize((oS E 0 (4^(h+1)):Nat):Int)=M;have K:=aFX (h:=h+1) G;have m:=eB h;refine cK Tryz.func293 ?_;refine cO (aHS (kids E h 0) 0 M rfl) ?_;refine⟨Nat,λi=>i<=4,λi=>⟨[(0,⟨[],true,.sl 0 0 (bQ E 0 (i*4^h)).length⟩),(2,⟨[],true,.int .i64 ((h+1:Nat):Int)⟩),(3,⟨[],true,.int .i64 0⟩),(5,⟨[],true,.ptr 1 0 0⟩),(9,⟨[],true,.int .i64 (i:Int)⟩)],[(0,.row 3 (bO E (bQ E 0 (i*4^h)))),(1,.box [.lst 3 false (kids E h 0),.int .i64 0,.int .i64 M])],2⟩,λi=>4-i,⟨0,zL _,?_⟩,λi F=>?_⟩
  ·dsimp only;rw [zP,bQ];exact Vw [none,some 0]
  dsimp only at F⊢;refine Wk ?_;refine aC (λf=>?_) (λf=>?_)<;> try simp only [zD,zA,zF,zE,zG] at f
  ·have f:i<4:=by simp at f;omega
   have J:i*4^h<=3*4^h:=zI _ (by omega);have B:=mM E 0 (i*4^h);have hg:=fT E h 0 i f;rw [zS] at hg;obtain⟨k0,k1,k2,k3,e⟩:=lK z h (i*4^h);have j:=bHI z h (i*4^h) (by omega) (by omega) (bQ E 0 (i*4^h)) (by omega);rw [e] at j hg;refine Wk ?_;refine⟨λ_=>⟨rfl,by omega,by show(i:Int)<4;omega⟩,?_⟩;rw [zC,hg];refine Wk ?_;rw [aP (n:=((h+1:Nat):Int)-1) (by omega) (by omega),show(((h+1:Nat):Int)-1)=(h:Int) by omega];refine cO (aOX h (by omega)) ?_
   rw [show(i:Int)*((4^h:Nat):Int)=((i*4^h:Nat):Int) from(zO _ _).symm,aP (n:=((i*4^h:Nat):Int)) (by omega) (by omega)];refine Wk ?_;rw [aP (n:=(0:Int)+((i*4^h:Nat):Int)) (by omega) (by omega),Int.zero_add];refine Wk ?_;refine .mov ⟨λ_=>⟨[0],_,_,_,j,⟨rfl,trivial⟩,rfl,rfl,?_⟩,(by intro h;cases h)⟩
   refine Wk ?_;rw [eF (by omega)];refine⟨i+1,by show i+1<=4;omega,?_,by show 4- (i+1)<4-i;omega⟩;dsimp only;rw [aD6,zS (i*4^h)];exact Vw [some 9456,some 1]
  have f:i=4:=by simp at f;omega
  subst f;rw [<-m];refine Wk ?_;exact⟨[some 0],Cl,rfl,Cl,rfl,Cl⟩
theorem bK8 {E:dJ} (m:bI E)(h:Nat)(z:h<=2)(C:bBE (bQ E 0 (4^h)) h)(B:gU E 0 (4^h)=false):aM Tryz.prog 216 [] [.agg (.int .i64 (h:Int)::sub E h 0)] (.sl 0 0 (bQ E 0 (4^h)).length) [.row 3 (bO E (bQ E 0 (4^h)))]:=by
 have j:=bA6 m h z C;have f:=bKH m h (by omega) B;obtain⟨k0,k1,k2,k3,e⟩:=lK m h 0;rw [e] at j f⊢;generalize bQ E 0 (4^h)=l at f⊢;refine cK Tryz.func216 ?_;refine cO j ?_;refine .inr ⟨λ_=>⟨[],_,_,_,f,trivial,rfl,rfl,rfl,?_⟩,(by intro h;cases h)⟩
 refine Wk ?_;exact⟨[some 1],Cl,rfl,Cl,rfl,Cl⟩
def inB(a q:Nat)(j:Nat):Bool:=bif decide ((a:Int)<=(j:Int)) then decide ((j:Int)- (a:Int)< (q:Int)) else false
theorem aLI {a q j:Nat} :inB a q j=true↔a<=j/\j<a+q:=by
 unfold inB
 by_cases h:(a:Int)<=(j:Int)
 ·rw [zdt h,zct,decide_eq_true_eq];omega
 ·rw [zdf h,zcf];simp;omega
theorem tY {α:Type} (p:α->Bool)(l:List α)(k:Nat)(d:α)(h:k<l.length):(l.take (k+1)).filter p=bif p (l.getD k d) then(l.take k).filter p++ [l.getD k d] else(l.take k).filter p:=by rw [aEV d h,List.filter_append];generalize l.getD k d=x;cases e:p x <;> simp [e]
theorem bQ1 {E:dJ} (Y:bI E):∀(h a:Nat) (l:List Nat) (t:Bool),h<=4->a+4^h<=256->(∀j,a<=j->j<a+4^h->(j∈l↔(E j).1≠0))->(∀j∈l,j<256)->l.length<=100000->
 aM Tryz.prog 296 [] [.lst 3 t (bO E l),.int .i64 (h:Int),.int .i64 (a:Int)] (.agg (sub E h a)) []:=by
 intro h
 induction h using Nat.strongRecOn with
 |ind h ih=>
  intro a l t hh h2 hm D ad;have hp:=aFX hh;have ha:a<=256:=Nat.le_trans (Nat.le_add_right a (4^h)) h2;have ac:=rfl (a:=l.filter (inB a (4^h)));generalize Z:l.filter (inB a (4^h))=G at ac;have K:∀j,a<=j->j<a+4^h->(j∈G↔(E j).1≠0):=λj h3 h4=>by rw [<-Z,List.mem_filter,<-hm j h3 h4];exact⟨λh=>h.1,λh=>⟨h,aLI.2 ⟨h3,h4⟩⟩⟩
  have J:∀j∈G,a<=j/\j<a+4^h/\j<256:=λj m=>by rw [<-Z,List.mem_filter] at m;exact⟨(aLI.1 m.2).1,(aLI.1 m.2).2,D j m.1⟩
  have aa:G.length<=100000:=by rw [<-Z];exact Nat.le_trans (zU _ _) ad
  have M:gU E a (4^h)=true↔G=[]:=by
   rw [jZ,List.eq_nil_iff_forall_not_mem];refine⟨λh j m=>?_,λh i hi=>?_⟩
   ·obtain⟨a1,a2,-⟩:=J j m;have :=h (j-a) (by omega);rw [show a+(j-a)=j by omega] at this;exact(K j a1 a2).1 m this
   ·by_cases h0:(E (a+i)).1=0
    ·exact h0
    ·exact absurd ((K (a+i) (by omega) (by omega)).2 h0) (h _)
  refine eT (ob0:= []) [.s 44] Tryz.func296 rfl rfl rfl rfl ?_;refine Wk ?_
  refine⟨Nat,λk=>k<=l.length,λk=>⟨[(0,⟨[],true,.lst 3 t (bO E l)⟩),(1,⟨[],true,.int .i64 (h:Int)⟩),(2,⟨[],true,.int .i64 (a:Int)⟩),(6,⟨[],true,.ptr 0 0 0⟩),(7,⟨[],true,.sl 1 0 ((l.take k).filter (inB a (4^h))).length⟩),(8,⟨[],true,.int .i64 (k:Int)⟩)],
   [(0,.box [bL,.int .i64 0,.int .i64 0]),(1,.row 3 (bO E ((l.take k).filter (inB a (4^h)))))],2⟩,λk=>l.length-k,⟨0,zL _,?_⟩,λk hI=>?_⟩
  ·exact Vw [some 0,none]
  dsimp only at hI⊢;have ab:((l.take k).filter (inB a (4^h))).length<=100000:=by have :=zU (inB a (4^h)) (l.take k);have :=List.length_take_le k l;omega
  refine Wk ?_;rw [aR];refine aC (λB=>?_) (λB=>?_)<;> try simp only [zD,zA,zF,zE,zG] at B
  ·have B:k<l.length:=by simp at B;omega
   have f:=tY (inB a (4^h)) l k 0 B;have O:(bif decide ((a:Int)<=((l.getD k 0:Nat):Int)) then decide (((l.getD k 0:Nat):Int)- (a:Int)< ((4^h:Nat):Int)) else false)=inB a (4^h) (l.getD k 0):=rfl;have hg:=lZ E l k B;have m:=D _ (show l.getD k 0∈l by simp only [zH,B,zQ,zZ];exact yA B);generalize l.getD k 0=j at f O hg m;generalize hF:(l.take k).filter (inB a (4^h))=F at f ab;refine Wk ?_;refine⟨λ_=>⟨rfl,by omega,by rw [aR];omega⟩,?_⟩;rw [zC,hg];refine Wk ?_
   refine⟨λ_=>⟨rfl,by omega,by rw [aR];omega⟩,?_⟩;rw [zC,hg];refine Wk ?_;rw [aP (n:=(j:Int)- (a:Int)) (by omega) (by omega)];refine cO (aOX h hh) ?_;rw [O];refine aC (λz=>?_) (λz=>?_)<;> try simp only [zD,zA,zF,zE,zG] at z
   ·rw [z,zct] at f;refine Wk ?_;refine aG (⟨rfl,by omega,by rw [aR];omega⟩) ?_;rw [zC,hg];refine Wk ?_;refine aG (aR E F).symm (cA (by rw [aR];show((F.length+1:Nat):Int)<=_;omega) (by rw [aR];show(F.length+1)*24<=_;omega) ?_);refine Wk ?_;rw [eF (by omega)];refine⟨k+1,by show k+1<=_;omega,?_,by show l.length- (k+1)<l.length-k;omega⟩;dsimp only;rw [f];refine bU [some 0,some 6449] rfl rfl ?_ rfl ?_ rfl ?_
    repeat' (first |exact trivial |rfl |exact .inl rfl |exact .inr rfl |exact id |exact zbc |apply And.intro)
    ·show bO E F++ [pZ E j]=_;simp [bO]
    ·show(bO E F).length+1=_;rw [aR,zK];rfl
   rw [z,zcf] at f;refine Wk ?_;rw [eF (by omega)];refine⟨k+1,by show k+1<=_;omega,?_,by show l.length- (k+1)<l.length-k;omega⟩;dsimp only;rw [f];exact Vw [some 0,some 1]
  have B:k=l.length:=by simp at B;omega
  subst B;rw [List.take_length,Z];refine Wk ?_
  refine⟨Unit,λ_=>True,λ_=>⟨[(1,⟨[],true,.int .i64 (h:Int)⟩),(2,⟨[],true,.int .i64 (a:Int)⟩),(6,⟨[],true,.ptr 0 0 0⟩),(7,⟨[],true,.lst 3 false (bO E G)⟩),(44,⟨[],true,.lst 3 false (bO E G)⟩)],
   [(0,.box [bL,.int .i64 0,.int .i64 0])],1⟩,?_,λ_ _=>?_⟩
  ·refine Wk ?_;refine⟨(),trivial,?_⟩;refine bU [some 0] rfl rfl ?_ rfl ?_ rfl ?_
   repeat' (first |exact trivial |rfl |exact .inl rfl |exact .inr rfl |exact id |exact zbc |apply And.intro)
   all_goals first |exact cF rfl (aR _ _)| (rw [aR];omega)
  refine Wk ?_;rw [aR]
  cases T:gU E a (4^h) with
  |true=> rw [fP Y T,M.1 T];refine Wk ?_;exact Lf
  |false=>
   have W:G≠ []:=λe=>by rw [M.2 e] at T;cases T
   have ag:0<G.length:=List.length_pos_iff.2 W;rw [show((G.length:Int)==0)=false from zbn.2 (by omega)]
   cases h with
   |zero=>
    have N:(bO E G).getD (Int.toNat 0) []=pZ E a:=by
     cases G with
     |nil=>exact absurd rfl W
     |cons x r=>
      obtain⟨a1,a2,-⟩:=J x List.mem_cons_self;have :x=a:=by have :(4:Nat)^0=1:=rfl;omega
      subst this;rfl
    rw [sub];refine Wk ?_;refine⟨λ_=>⟨rfl,by decide,by rw [aR];omega⟩,?_⟩;rw [N];refine Wk ?_;refine⟨λ_=>⟨rfl,by decide,by rw [aR];omega⟩,?_⟩;rw [N];refine Wk ?_;exact Lf
   |succ h=>
    rw [jK T];have ae:=eB h;have R:(kids E h a).length=4:=rfl;refine Wk ?_
    refine⟨Nat,λi=>i<=4,λi=>⟨[(1,⟨[],true,.int .i64 ((h+1:Nat):Int)⟩),(2,⟨[],true,.int .i64 (a:Int)⟩),(6,⟨[],true,.ptr 0 0 0⟩),(7,⟨[],true,.lst 3 false (bO E G)⟩),(9,⟨[],true,.ptr 1 0 0⟩),(10,⟨[],true,.int .i64 (i:Int)⟩)],
     [(0,.box [bL,.int .i64 0,.int .i64 0]),(1,.box [.sl 2 0 i,.int .i64 0,.int .i64 ((oS E a (i*4^h):Nat):Int)]),(2,.row 3 ((kids E h a).take i))],3⟩,λi=>4-i,⟨0,zL _,?_⟩,λi hI=>?_⟩
    ·dsimp only;rw [zP];exact Vw [some 0,some 1,none]
    dsimp only at hI⊢;have C:((kids E h a).take i).length=i:=by rw [List.length_take,R];omega
    refine Wk ?_;refine aC (λz=>?_) (λz=>?_)<;> try simp only [zD,zA,zF,zE,zG] at z
    ·have z:i<4:=by simp at z;omega
     have af:i*4^h<=3*4^h:=zI _ (by omega);obtain⟨k0,k1,k2,k3,e⟩:=lK Y h (a+i*4^h);have H:=ih h (Nat.lt_succ_self h) (a+i*4^h) G false (by omega) (by omega) (λj h3 h4=>K j (by omega) (by omega)) (λj m=>(J j m).2.2) aa;have Q:(kids E h a).take (i+1)=(kids E h a).take i++ [sub E h (a+i*4^h)]:=by rw [aEV [] (by rw [R];exact z),fT E h a i z]
     rw [e] at H Q;refine Wk ?_;rw [aP (n:=((h+1:Nat):Int)-1) (by omega) (by omega),show(((h+1:Nat):Int)-1)=(h:Int) by omega];refine cO (aOX h (by omega)) ?_;rw [show(i:Int)*((4^h:Nat):Int)=((i*4^h:Nat):Int) from(zO _ _).symm,aP (n:=((i*4^h:Nat):Int)) (by omega) (by omega)];refine Wk ?_;rw [aP (n:=(a:Int)+((i*4^h:Nat):Int)) (by omega) (by omega),show(a:Int)+((i*4^h:Nat):Int)=((a+i*4^h:Nat):Int) from(Int.natCast_add _ _).symm];refine cO H ?_
     refine aG C.symm (cA (by rw [C];show((i+1:Nat):Int)<=_;omega) (by rw [C];show(i+1)*40<=_;omega) ?_);refine Wk ?_;rw [fU (sI Y) (sI Y),aBZ,eF (by omega)];refine⟨i+1,by show i+1<=4;omega,?_,by show 4- (i+1)<4-i;omega⟩;dsimp only;rw [Q];refine bU [some 0,some 1,some 5] rfl rfl ?_ rfl ?_ rfl ?_
     repeat' (first |exact trivial |rfl |exact .inl rfl |exact .inr rfl |exact id |exact zbc |apply And.intro)
     show((kids E h a).take i).length+1=_;rw [C]
    have z:i=4:=by simp at z;omega
    subst z;rw [<-ae];refine Wk ?_;refine⟨[],trivial,rfl,trivial,rfl,?_⟩
    repeat' (first |exact trivial |rfl |exact .inl rfl |exact .inr rfl |exact id |exact zbc |apply And.intro)
    exact yC 4
end Go.Proofs.YtmhapcbjjpadnaaGreat
