/- Caches. -/
import Derived.Test.YtmhapcbjjpadnaaGreatG8
import Derived.Test.YtmhapcbjjpadnaaGreatG7
set_option linter.unusedSimpArgs false
set_option linter.unusedVariables false
open Bool renaming cond_false_right→zA,cond_true_left→zD,not_eq_false'→zE,not_eq_true'→zF,not_not→zG,and_eq_true→zR
open Int renaming toNat_natCast→zC,natCast_mul→zO
open List renaming getD_eq_getElem?_getD→zH,length_append→zK,cons_ne_nil→zM,getElem?_eq_getElem→zQ,length_cons→zS,append_nil→zU,length_filter_le→zV,append_assoc→zX,not_mem_nil→zZ,getElem_mem→yB
open Nat renaming mul_le_mul_right→zI,add_assoc→zJ,zero_le→zL,pow_le_pow_right→zN,zero_mul→zP,zero_add→zT,succ_mul→zW,add_zero→zY,le_refl→yC
open Option renaming getD_some→yA
set_option maxRecDepth 40000
namespace Go.Proofs.YtmhapcbjjpadnaaGreat
open Go Go.Sk Go.RowKit
abbrev cK:=Nat→Int×Nat
structure bG(E:cK):Prop where
 small:∀i,(E i).2<8
 none:∀i,(E i).1≤0→(E i).2=0
def fF(E:cK)(at_:Nat):Nat→Bool
 |0=>true
 |n+1=>fF E at_ n&&(E (at_+n)).1==0
def kL(E:cK)(at_:Nat):Nat→Nat
 |0=>0
 |n+1=>kL E at_ n ||| (E (at_+n)).2
theorem gP {E:cK} {a:Nat} :∀ {n:Nat},fF E a n=true↔∀i,i<n→(E (a+i)).1=0
 |0=>by simp [fF]
 |n+1=>by
  simp only [fF,zR,gP (n:=n),beq_iff_eq]
  refine⟨fun h i hi=>?_,fun h=>⟨fun i hi=>h i (by omega),h n (by omega)⟩⟩
  by_cases e:i=n
  ·subst e;exact h.2
  ·exact h.1 i (by omega)
theorem aH7 {E:cK} {a m:Nat} :∀ {n:Nat},fF E a (m+n)=(fF E a m&&fF E (a+m) n)
 |0=>by simp [fF]
 |n+1=>by
  rw [←zJ]
  simp only [fF]
  rw [aH7 (n:=n),zJ,Bool.and_assoc]
theorem aO3 {E:cK} {a m:Nat} :∀ {n:Nat},kL E a (m+n)=kL E a m ||| kL E (a+m) n
 |0=>by simp [kL]
 |n+1=>by
  rw [←zJ]
  simp only [kL]
  rw [aO3 (n:=n),zJ,Nat.or_assoc]
theorem pH {E:cK} (h:bG E) {a:Nat} :∀ {n:Nat},kL E a n<8
 |0=>Nat.zero_lt_succ _
 |n+1=>Nat.or_lt_two_pow (n:=3) (pH h (n:=n)) (h.small _)
theorem aTY {E:cK} (h:bG E) {a:Nat} :∀ {n:Nat},fF E a n=true→kL E a n=0
 |0,_=>rfl
 |n+1,hn=>by
  simp only [fF,zR,beq_iff_eq] at hn
  rw [kL,aTY h hn.1,h.none _ (by omega)];rfl
def mt:List V:= [bP,.int .i64 0,.int .i64 0]
def sub(E:cK):Nat→Nat→List V
 |0,a=> [bP,.int .i64 (E a).1,.int .i64 ((E a).2:Int)]
 |h+1,a=>bif fF E a (4^(h+1)) then mt else
   [.lst 3 false [sub E h a,sub E h (a+4^h),sub E h (a+2*4^h),sub E h (a+3*4^h)],.int .i64 0,.int .i64 (kL E a (4^(h+1)):Nat)]
def kids(E:cK)(h a:Nat):List (List V):= [sub E h a,sub E h (a+4^h),sub E h (a+2*4^h),sub E h (a+3*4^h)]
theorem dP {E:cK} (hE:bG E):∀ {h a:Nat},fF E a (4^h)=true→sub E h a=mt
 |0,a,hn=>by
  have h0:(E a).1=0:=by simpa [fF] using hn
  rw [sub,h0,hE.none a (by omega)];rfl
 |h+1,a,hn=>by rw [sub,hn];rfl
theorem gH {E:cK} {h a:Nat} (hn:fF E a (4^(h+1))=false):sub E (h+1) a=[.lst 3 false (kids E h a),.int .i64 0,.int .i64 (kL E a (4^(h+1)):Nat)]:=by rw [sub,hn];rfl
theorem eD(E:cK)(h a i:Nat)(hi:i<4):(kids E h a).getD i []=sub E h (a+i*4^h):=by
 match i,hi with
 |0,_=>simp [kids]
 |1,_=>simp [kids]
 |2,_=>rfl
 |3,_=>rfl
theorem aA7:aN Tryz.prog 340 [] [.agg mt] (.bool true) []:=by
 refine aF (ob0:= []) [] Tryz.func340 rfl rfl rfl rfl ?_
 refine Wk ?_
 try subst hk
 exact Lf
theorem aDO(v m:Int)(hv:v≠0):aN Tryz.prog 340 [] [.agg [bP,.int .i64 v,.int .i64 m]] (.bool false) []:=by
 have hv:(v==0)=false:=by simpa using hv
 refine aF (ob0:= []) [] Tryz.func340 rfl rfl rfl rfl ?_
 refine Wk ?_
 rw [hv]
 refine Wk ?_
 try subst hk
 exact Lf
theorem aDN(ks:List (List V))(v m:Int)(hk:ks.length=4):aN Tryz.prog 340 [] [.agg [.lst 3 false ks,.int .i64 v,.int .i64 m]] (.bool false) []:=by
 refine aF (ob0:= []) [] Tryz.func340 rfl rfl rfl rfl ?_
 refine Wk ?_
 rw [hk]
 refine Wk ?_
 try subst hk
 exact Lf
theorem bGS {E:cK} (hE:bG E)(h a:Nat):aN Tryz.prog 340 [] [.agg (sub E h a)] (.bool (fF E a (4^h))) []:=by
 cases hn:fF E a (4^h) with
 |true=>rw [dP hE hn];exact aA7
 |false=>
  cases h with
  |zero=>exact aDO _ _ (by simpa [fF] using hn)
  |succ h=>rw [gH hn];exact aDN _ _ _ rfl
theorem aJY(h:Nat)(hh:h≤4):aN Tryz.prog 341 [] [.int .i64 (h:Int)] (.int .i64 ((4^h:Nat):Int)) []:=by
 match h,hh with
 |0,_=>exact run_eq E1 40 (by kernel_rfl)
 |1,_=>exact run_eq E1 40 (by kernel_rfl)
 |2,_=>exact run_eq E1 40 (by kernel_rfl)
 |3,_=>exact run_eq E1 40 (by kernel_rfl)
 |4,_=>exact run_eq E1 40 (by kernel_rfl)
def htE(i:Nat):Nat:=bif Nat.beq i 0 then 0 else bif Nat.blt i 4 then 1 else 2
theorem bA1(i:Nat)(hi:i<16):aN Tryz.prog 295 [] [.int .i64 (i:Int)] (.int .i64 (htE i:Int)) []:=by
 match i,hi with
 |0,_=>exact run_eq E1 40 (by kernel_rfl)
 |1,_=>exact run_eq E1 40 (by kernel_rfl)
 |2,_=>exact run_eq E1 40 (by kernel_rfl)
 |3,_=>exact run_eq E1 40 (by kernel_rfl)
 |4,_=>exact run_eq E1 40 (by kernel_rfl)
 |5,_=>exact run_eq E1 40 (by kernel_rfl)
 |6,_=>exact run_eq E1 40 (by kernel_rfl)
 |7,_=>exact run_eq E1 40 (by kernel_rfl)
 |8,_=>exact run_eq E1 40 (by kernel_rfl)
 |9,_=>exact run_eq E1 40 (by kernel_rfl)
 |10,_=>exact run_eq E1 40 (by kernel_rfl)
 |11,_=>exact run_eq E1 40 (by kernel_rfl)
 |12,_=>exact run_eq E1 40 (by kernel_rfl)
 |13,_=>exact run_eq E1 40 (by kernel_rfl)
 |14,_=>exact run_eq E1 40 (by kernel_rfl)
 |15,_=>exact run_eq E1 40 (by kernel_rfl)
 |n+16,hh=>exact absurd hh (by omega)
end Go.Proofs.YtmhapcbjjpadnaaGreat
set_option maxRecDepth 40000
namespace Go.Proofs.YtmhapcbjjpadnaaGreat
open Go Go.Sk Go.RowKit
theorem eM {x y:Nat} (hx:x<8)(hy:y<8):eX .or .i64 (x:Int) (y:Int)=((x ||| y:Nat):Int):=by
 have key:∀a:Fin 8,∀b:Fin 8,eX .or .i64 (a.val:Int) (b.val:Int)=((a.val ||| b.val:Nat):Int):=by decide
 exact key ⟨x,hx⟩ ⟨y,hy⟩
theorem dF(h:Nat):4^(h+1)=4*4^h:=by rw [Nat.pow_succ,Nat.mul_comm]
theorem gZ {E:cK} (hE:bG E)(h a:Nat):∃k n xs v,sub E h a=[.lst k n xs,.int .i64 v,.int .i64 (kL E a (4^h):Nat)]:=by
 cases hn:fF E a (4^h) with
 |true=>rw [dP hE hn,aTY hE hn];exact⟨_,_,_,_,rfl⟩
 |false=>
  cases h with
  |zero=>exact⟨0,true,[],(E a).1,by rw [sub];simp [kL,bP]⟩
  |succ h=>rw [gH hn];exact⟨_,_,_,_,rfl⟩
theorem uT(E:cK)(a q i:Nat):kL E a (i*q)||| kL E (a+i*q) q=kL E a ((i+1)*q):=by rw [zW,aO3]
theorem aDJ(E:cK)(a q i:Nat):(bif !fF E a (i*q) then true else !fF E (a+i*q) q)= !fF E a ((i+1)*q):=by
 rw [zW,aH7];cases fF E a (i*q)<;> simp
set_option maxRecDepth 20000 in
theorem bGC {E:cK} (hE:bG E):∀(h a:Nat),h≤4→aN Tryz.prog 294 [] [.agg (sub E h a),.int .i64 (h:Int)] (.bool true) []:=by
 intro h
 induction h with
 |zero=>
  intro a _
  cases hn:fF E a (4^0) with
  |true=>
   rw [dP hE hn]
   refine aF (ob0:= []) [] Tryz.func294 rfl rfl rfl rfl ?_
   refine cC aA7 ?_
   try subst hk
   exact Lf
  |false=>
   have hv:(E a).1≠0:=by simpa [fF] using hn
   have hm:=hE.small a
   have hz:=hE.none a
   rw [sub]
   generalize(E a).1=v at hv hz
   generalize(E a).2=m at hm hz
   refine aF (ob0:= []) [] Tryz.func294 rfl rfl rfl rfl ?_
   refine cC (aDO v m hv) ?_
   rw [show(v != 0)=true by simpa using hv,show decide ((0:Int)≤(m:Int))=true from decide_eq_true (by omega),show decide ((m:Int)≤7)=true from decide_eq_true (by omega),
    show(bif decide (0<v) then true else(m:Int)==0)=true by
     by_cases h0:0<v
     ·rw [decide_eq_true h0];rfl
     ·rw [hz (by omega)];cases decide (0<v)<;> rfl]
   try subst hk
   exact Lf
 |succ h ih=>
  intro a hh
  cases hn:fF E a (4^(h+1)) with
  |true=>
   rw [dP hE hn]
   refine aF (ob0:= []) [] Tryz.func294 rfl rfl rfl rfl ?_
   refine cC aA7 ?_
   try subst hk
   exact Lf
  |false=>
   rw [gH hn]
   generalize hM:((kL E a (4^(h+1)):Nat):Int)=M
   refine aF (ob0:= []) [] Tryz.func294 rfl rfl rfl rfl ?_
   refine cC (aDN (kids E h a) 0 M rfl) ?_
   refine⟨Nat,fun i=>i≤4,fun i=>⟨[(1,⟨[],true,.int .i64 ((h+1:Nat):Int)⟩),(2,⟨[],true,.ptr 0 0 0⟩),(5,⟨[],true,.int .i64 ((kL E a (i*4^h):Nat):Int)⟩),(6,⟨[],true,.bool (!fF E a (i*4^h))⟩),(7,⟨[],true,.int .i64 (i:Int)⟩)],[(0,.box [.lst 3 false (kids E h a),.int .i64 0,.int .i64 M])],1⟩,fun i=>4-i,⟨0,zL _,?_⟩,fun i hI=>?_⟩
   ·refine bT [some ?k74_0] rfl rfl ?h3_74 ?h4_74 ?h5_74 ?h6_74 ?h7_74
    case' h7_74=>repeat' (first |exact trivial |rfl |exact .inl rfl |exact .inr rfl |exact id |exact(fun h=>Bool.noConfusion h)|refine And.intro ?_ ?_)
    case' h4_74=>rfl
    case' h6_74=>rfl
    case' h3_74=>repeat' (first |exact trivial |rfl |exact .inl rfl |exact .inr rfl |exact id |exact(fun h=>Bool.noConfusion h)|refine And.intro ?_ ?_)
    case' h5_74=>repeat' (first |exact trivial |rfl |exact .inl rfl |exact .inr rfl |exact id |exact(fun h=>Bool.noConfusion h)|refine And.intro ?_ ?_)
    all_goals first | (rw [zP];rfl)|skip
   dsimp only at hI⊢
   refine Wk ?_
   refine aC (fun b1=>?_) (fun b1=>?_)<;> try simp only [zD,zA,zF,zE,zG] at b1
   ·have b1:i<4:=by simp at b1;omega
    obtain⟨k0,k1,k2,k3,e⟩:=gZ hE h (a+i*4^h)
    have ih':=ih (a+i*4^h) (by omega)
    have k340:=bGS hE h (a+i*4^h)
    have hg:=eD E h a i b1
    rw [e] at ih' k340 hg
    refine Wk ?_
    first |refine aB (⟨rfl,by omega,by show(i:Int)<4;omega⟩) ?_ |refine aH (fun _=>⟨rfl,by omega,by show(i:Int)<4;omega⟩) ?_ |refine⟨fun _=>⟨rfl,by omega,by show(i:Int)<4;omega⟩,?_⟩
    rw [zC,hg]
    refine Wk ?_
    rw [aO (n:=((h+1:Nat):Int)-1) (by omega) (by omega),show(((h+1:Nat):Int)-1)=(h:Int) by omega]
    refine cC ih' ?_
    first |refine aB (⟨rfl,by omega,by show(i:Int)<4;omega⟩) ?_ |refine aH (fun _=>⟨rfl,by omega,by show(i:Int)<4;omega⟩) ?_ |refine⟨fun _=>⟨rfl,by omega,by show(i:Int)<4;omega⟩,?_⟩
    rw [zC,hg]
    refine Wk ?_
    rw [eM (pH hE) (pH hE),uT]
    refine Wk ?_
    first |refine aB (⟨rfl,by omega,by show(i:Int)<4;omega⟩) ?_ |refine aH (fun _=>⟨rfl,by omega,by show(i:Int)<4;omega⟩) ?_ |refine⟨fun _=>⟨rfl,by omega,by show(i:Int)<4;omega⟩,?_⟩
    rw [zC,hg]
    refine cC k340 ?_
    rw [aDJ,dG (by omega)]
    refine⟨i+1,by show i+1≤4;omega,?_,by show 4- (i+1)<4-i;omega⟩
    exact Vw [some 0]
   have b1:i=4:=by simp at b1;omega
   subst b1
   rw [←dF,hn]
   subst hM
   refine Wk ?_
   rw [beq_self_eq_true]
   try subst hk
   exact Lf
end Go.Proofs.YtmhapcbjjpadnaaGreat
set_option maxRecDepth 40000
namespace Go.Proofs.YtmhapcbjjpadnaaGreat
open Go Go.Sk Go.RowKit
def bN(E:cK)(a:Nat):Nat→List Nat
 |0=> []
 |n+1=>bN E a n++(bif (E (a+n)).1==0 then [] else [a+n])
def mZ(E:cK)(i:Nat):List V:= [.int .i64 (i:Int),.int .i64 (E i).1,.int .i64 ((E i).2:Int)]
def bK(E:cK)(l:List Nat):List (List V):=l.map (mZ E)
theorem aK(E:cK)(l:List Nat):(bK E l).length=l.length:=List.length_map _
theorem aJC {E:cK} {a m:Nat} :∀ {n:Nat},bN E a (m+n)=bN E a m++bN E (a+m) n
 |0=>by simp [bN]
 |n+1=>by
  rw [←zJ]
  simp only [bN]
  rw [aJC (n:=n),zJ,zX]
theorem rW {E:cK} {a:Nat} :∀ {n:Nat},fF E a n=true→bN E a n=[]
 |0,_=>rfl
 |n+1,h=>by
  simp only [fF,zR] at h
  rw [bN,rW h.1,h.2];rfl
theorem jY(E:cK)(a:Nat):∀n,(bN E a n).length≤n
 |0=>yC 0
 |n+1=>by
  have :=jY E a n
  rw [bN,zK]
  cases((E (a+n)).1==0)<;> simp <;> omega
theorem vX(E:cK)(a q i:Nat):bN E a ((i+1)*q)=bN E a (i*q)++bN E (a+i*q) q:=by rw [zW,aJC]
theorem aC8 {h:Nat} (hh:h≤4):4^h≤256:=zN (by decide) hh
set_option maxRecDepth 20000 in
theorem bA0 {E:cK} (hE:bG E):∀(h a:Nat),h≤4→a+4^h≤256→∀l:List Nat,l.length+4^h≤100000→
 FnM Tryz.prog 293 [.row 3 (bK E l)] [.sl 0 0 l.length,.agg (sub E h a),.int .i64 (h:Int),.int .i64 (a:Int)] (.sl 0 0 (l++bN E a (4^h)).length) [.row 3 (bK E (l++bN E a (4^h)))]:=by
 intro h
 induction h with
 |zero=>
  intro a _ ha l hl
  cases hn:fF E a (4^0) with
  |true=>
   rw [dP hE hn,rW hn,zU]
   refine aC2 (ob0:= [.row 3 (bK E l)]) [] Tryz.func293 rfl rfl rfl rfl ?_
   refine cC aA7 ?_
   try subst hk
   exact⟨[some 0],Cl,rfl,Cl,rfl,Cl⟩
  |false=>
   have hv:(E a).1≠0:=by simpa [fF] using hn
   have hi:bN E a (4^0)=[a]:=by
    show []++(bif (E (a+0)).1==0 then [] else [a+0])=[a]
    rw [zY,show((E a).1==0)=false by simpa using hv];rfl
   rw [sub,hi]
   refine aC2 (ob0:= [.row 3 (bK E l)]) [] Tryz.func293 rfl rfl rfl rfl ?_
   refine cC (aDO _ _ hv) ?_
   refine aB (aK E l).symm (bA (by rw [aK];show((l.length+1:Nat):Int)≤_;omega) (by rw [aK];show(l.length+1)*24≤_;omega) ?_)
   refine Wk ?_
   try subst hk
   refine⟨[some 3],?_,rfl,?_,rfl,?_⟩
   all_goals repeat' (first |exact trivial |rfl |exact .inl rfl |exact .inr rfl |exact id |exact(fun h=>Bool.noConfusion h)|refine And.intro ?_ ?_)
   ·show bK E l++ [mZ E a]=_
    simp [bK]
   ·show(bK E l).length+1=_
    rw [aK,zK];rfl
 |succ h ih=>
  intro a hh ha l hl
  cases hn:fF E a (4^(h+1)) with
  |true=>
   rw [dP hE hn,rW hn,zU]
   refine aC2 (ob0:= [.row 3 (bK E l)]) [] Tryz.func293 rfl rfl rfl rfl ?_
   refine cC aA7 ?_
   try subst hk
   exact⟨[some 0],Cl,rfl,Cl,rfl,Cl⟩
  |false=>
   rw [gH hn]
   generalize((kL E a (4^(h+1)):Nat):Int)=M
   have hp:=aC8 (h:=h+1) hh
   have hp':=dF h
   refine aC2 (ob0:= [.row 3 (bK E l)]) [] Tryz.func293 rfl rfl rfl rfl ?_
   refine cC (aDN (kids E h a) 0 M rfl) ?_
   refine⟨Nat,fun i=>i≤4,fun i=>⟨[(0,⟨[],true,.sl 0 0 (l++bN E a (i*4^h)).length⟩),(2,⟨[],true,.int .i64 ((h+1:Nat):Int)⟩),(3,⟨[],true,.int .i64 (a:Int)⟩),(5,⟨[],true,.ptr 1 0 0⟩),(9,⟨[],true,.int .i64 (i:Int)⟩)],[(0,.row 3 (bK E (l++bN E a (i*4^h)))),(1,.box [.lst 3 false (kids E h a),.int .i64 0,.int .i64 M])],2⟩,fun i=>4-i,⟨0,zL _,?_⟩,fun i hI=>?_⟩
   ·dsimp only
    rw [zP,bN,zU]
    exact Vw [some 0,some 1]
   dsimp only at hI⊢
   refine Wk ?_
   refine aC (fun b1=>?_) (fun b1=>?_)<;> try simp only [zD,zA,zF,zE,zG] at b1
   ·have b1:i<4:=by simp at b1;omega
    have hiq:i*4^h≤3*4^h:=zI _ (by omega)
    obtain⟨k0,k1,k2,k3,e⟩:=gZ hE h (a+i*4^h)
    have hlen:=jY E a (i*4^h)
    have ih':=ih (a+i*4^h) (by omega) (by omega) (l++bN E a (i*4^h)) (by rw [zK];omega)
    have hg:=eD E h a i b1
    rw [e] at ih' hg
    refine Wk ?_
    first |refine aB (⟨rfl,by omega,by show(i:Int)<4;omega⟩) ?_ |refine aH (fun _=>⟨rfl,by omega,by show(i:Int)<4;omega⟩) ?_ |refine⟨fun _=>⟨rfl,by omega,by show(i:Int)<4;omega⟩,?_⟩
    rw [zC,hg]
    refine Wk ?_
    rw [aO (n:=((h+1:Nat):Int)-1) (by omega) (by omega),show(((h+1:Nat):Int)-1)=(h:Int) by omega]
    refine cC (aJY h (by omega)) ?_
    rw [show(i:Int)*((4^h:Nat):Int)=((i*4^h:Nat):Int) from(zO _ _).symm,aO (n:=((i*4^h:Nat):Int)) (by omega) (by omega)]
    refine Wk ?_
    rw [aO (n:=(a:Int)+((i*4^h:Nat):Int)) (by omega) (by omega),show(a:Int)+((i*4^h:Nat):Int)=((a+i*4^h:Nat):Int) from(Int.natCast_add _ _).symm]
    refine Wk ?_
    refine .mov ⟨fun _=>⟨[0],_,_,_,ih',⟨rfl,trivial⟩,rfl,rfl,?_⟩,(by intro h;cases h)⟩
    refine Wk ?_
    rw [dG (by omega)]
    refine⟨i+1,by show i+1≤4;omega,?_,by show 4- (i+1)<4-i;omega⟩
    dsimp only
    rw [vX,←zX]
    exact Vw [some 9456,some 1]
   have b1:i=4:=by simp at b1;omega
   subst b1
   rw [←hp']
   refine Wk ?_
   try subst hk
   exact⟨[some 0],Cl,rfl,Cl,rfl,Cl⟩
def aPT(E:cK)(l:List Nat):V:=match l with
 | []=>bP
 |i::r=>.lst 3 false (bK E (i::r))
theorem aNF {E:cK} {a:Nat} :∀ {n:Nat},fF E a n=false→bN E a n≠ []
 |0,h=>by cases h
 |n+1,h=>by
  rw [bN]
  cases hv:((E (a+n)).1==0) with
  |false=>simp
  |true=>
   rw [fF,hv,Bool.and_true] at h
   simpa using aNF h
theorem rY {E:cK} {l:List Nat} (h:l≠ []):aPT E l=.lst 3 false (bK E l):=by
 cases l with
 |nil=>exact absurd rfl h
 |cons i r=>rfl
set_option maxRecDepth 20000 in
theorem aTS {E:cK} (hE:bG E)(h:Nat)(hh:h≤4):aN Tryz.prog 293 [] [bP,.agg (sub E h 0),.int .i64 (h:Int),.int .i64 0] (aPT E (bN E 0 (4^h))) []:=by
 cases hn:fF E 0 (4^h) with
 |true=>
  rw [dP hE hn,rW hn]
  refine aF (ob0:= []) [] Tryz.func293 rfl rfl rfl rfl ?_
  refine cC aA7 ?_
  try subst hk
  exact Lf
 |false=>
  rw [rY (aNF hn)]
  cases h with
  |zero=>
   have hv:(E 0).1≠0:=by simpa [fF] using hn
   have hi:bN E 0 (4^0)=[0]:=by
    show []++(bif (E (0+0)).1==0 then [] else [0+0])=[0]
    rw [zY,show((E 0).1==0)=false by simpa using hv];rfl
   rw [sub,hi]
   refine aF (ob0:= []) [] Tryz.func293 rfl rfl rfl rfl ?_
   refine cC (aDO _ _ hv) ?_
   refine⟨[],trivial,rfl,trivial,rfl,?_⟩
   try subst hk
   repeat' (first |exact trivial |rfl |exact .inl rfl |exact .inr rfl |exact id |exact(fun h=>Bool.noConfusion h)|refine And.intro ?_ ?_)
   all_goals first |rfl |exact yC 1
  |succ h=>
   rw [gH hn]
   generalize((kL E 0 (4^(h+1)):Nat):Int)=M
   have hp:=aC8 (h:=h+1) hh
   have hp':=dF h
   refine aF (ob0:= []) [] Tryz.func293 rfl rfl rfl rfl ?_
   refine cC (aDN (kids E h 0) 0 M rfl) ?_
   refine⟨Nat,fun i=>i≤4,fun i=>⟨[(0,⟨[],true,.sl 0 0 (bN E 0 (i*4^h)).length⟩),(2,⟨[],true,.int .i64 ((h+1:Nat):Int)⟩),(3,⟨[],true,.int .i64 0⟩),(5,⟨[],true,.ptr 1 0 0⟩),(9,⟨[],true,.int .i64 (i:Int)⟩)],[(0,.row 3 (bK E (bN E 0 (i*4^h)))),(1,.box [.lst 3 false (kids E h 0),.int .i64 0,.int .i64 M])],2⟩,fun i=>4-i,⟨0,zL _,?_⟩,fun i hI=>?_⟩
   ·dsimp only
    rw [zP,bN]
    exact Vw [none,some 0]
   dsimp only at hI⊢
   refine Wk ?_
   refine aC (fun b1=>?_) (fun b1=>?_)<;> try simp only [zD,zA,zF,zE,zG] at b1
   ·have b1:i<4:=by simp at b1;omega
    have hiq:i*4^h≤3*4^h:=zI _ (by omega)
    have hlen:=jY E 0 (i*4^h)
    have hg:=eD E h 0 i b1
    rw [zT] at hg
    obtain⟨k0,k1,k2,k3,e⟩:=gZ hE h (i*4^h)
    have ih':=bA0 hE h (i*4^h) (by omega) (by omega) (bN E 0 (i*4^h)) (by omega)
    rw [e] at ih' hg
    refine Wk ?_
    first |refine aB (⟨rfl,by omega,by show(i:Int)<4;omega⟩) ?_ |refine aH (fun _=>⟨rfl,by omega,by show(i:Int)<4;omega⟩) ?_ |refine⟨fun _=>⟨rfl,by omega,by show(i:Int)<4;omega⟩,?_⟩
    rw [zC,hg]
    refine Wk ?_
    rw [aO (n:=((h+1:Nat):Int)-1) (by omega) (by omega),show(((h+1:Nat):Int)-1)=(h:Int) by omega]
    refine cC (aJY h (by omega)) ?_
    rw [show(i:Int)*((4^h:Nat):Int)=((i*4^h:Nat):Int) from(zO _ _).symm,aO (n:=((i*4^h:Nat):Int)) (by omega) (by omega)]
    refine Wk ?_
    rw [aO (n:=(0:Int)+((i*4^h:Nat):Int)) (by omega) (by omega),Int.zero_add]
    refine Wk ?_
    refine .mov ⟨fun _=>⟨[0],_,_,_,ih',⟨rfl,trivial⟩,rfl,rfl,?_⟩,(by intro h;cases h)⟩
    refine Wk ?_
    rw [dG (by omega)]
    refine⟨i+1,by show i+1≤4;omega,?_,by show 4- (i+1)<4-i;omega⟩
    dsimp only
    rw [vX,zT (i*4^h)]
    exact Vw [some 9456,some 1]
   have b1:i=4:=by simp at b1;omega
   subst b1
   rw [←hp']
   refine Wk ?_
   refine⟨[],trivial,rfl,trivial,rfl,?_⟩
   try subst hk
   repeat' (first |exact trivial |rfl |exact .inl rfl |exact .inr rfl |exact id |exact(fun h=>Bool.noConfusion h)|refine And.intro ?_ ?_)
   ·rw [aK];omega
   ·exact bW rfl (aK _ _)
end Go.Proofs.YtmhapcbjjpadnaaGreat
set_option maxRecDepth 40000
namespace Go.Proofs.YtmhapcbjjpadnaaGreat
open Go Go.Sk Go.RowKit
def aDB(l:List Nat):Nat:=l.getD (l.length-1) 0
def aUS(l:List Nat)(h:Nat):Prop:=match l with
 | []=>h=0
 |l=>htE (aDB l)=h
theorem jN(E:cK)(l:List Nat)(k:Nat)(h:k<l.length):(bK E l).getD k []=mZ E (l.getD k 0):=by
 simp [bK,zH,h]
theorem iX {E:cK} {a i:Nat} :∀ {n:Nat},i∈bN E a n↔a≤i∧i<a+n∧(E i).1≠0
 |0=>by simp [bN];omega
 |n+1=>by
  rw [bN,List.mem_append,iX (n:=n)]
  cases hv:((E (a+n)).1==0) with
  |true=>
   have hv:(E (a+n)).1=0:=by simpa using hv
   simp only [cond_true,zZ,or_false]
   refine⟨fun h=>⟨h.1,by omega,h.2.2⟩,fun h=>⟨h.1,?_,h.2.2⟩⟩
   by_cases e:i=a+n
   ·subst e;exact absurd hv h.2.2
   ·omega
  |false=>
   have hv:(E (a+n)).1≠0:=by simpa using hv
   simp only [cond_false,List.mem_singleton]
   first |refine aC (fun h=>?_) (fun h=>?_)|refine⟨fun h=>?_,fun h=>?_⟩
   ·rcases h with h |rfl
    ·exact⟨h.1,by omega,h.2.2⟩
    ·exact⟨by omega,by omega,hv⟩
   ·by_cases e:i=a+n
    ·exact .inr e
    ·exact .inl ⟨h.1,by omega,h.2.2⟩
set_option maxRecDepth 20000 in
theorem aTI {E:cK} (hE:bG E)(h:Nat)(hh:h≤2)(ht:aUS (bN E 0 (4^h)) h):aN Tryz.prog 218 [] [.agg (.int .i64 (h:Int)::sub E h 0)] (.bool true) []:=by
 have hp:4^h≤16:=zN (n:=4) (by decide) hh
 have k294:=bGC hE h 0 (by omega)
 have k293:=aTS hE h (by omega)
 obtain⟨k0,k1,k2,k3,e⟩:=gZ hE h 0
 have hlen:=jY E 0 (4^h)
 have hmem:∀i∈bN E 0 (4^h),i<16:=fun i hi=>by have :=(iX.1 hi).2.1;omega
 rw [e] at k294 k293⊢
 generalize bN E 0 (4^h)=l at ht k293 hlen hmem
 refine aF (ob0:= []) [] Tryz.func218 rfl rfl rfl rfl ?_
 refine vJ k294 k293 ?_
 refine aC (fun c1=>?_) (fun c1=>?_)<;> try simp only [zD,zA,zF,zE,zG] at c1
 ·simp at c1;omega
 clear c1
 refine cC k293 ?_
 cases l with
 |nil=>
  obtain rfl:h=0:=ht
  refine Wk ?_
  try subst hk
  exact Lf
 |cons x r=>
  have hl0:0< (x::r).length:=Nat.zero_lt_succ _
  have hla:aDB (x::r)<16:=hmem _ (by unfold aDB;simp only [zH,show(x::r).length-1< (x::r).length by omega,zQ,yA];exact yB _)
  have ht:htE (aDB (x::r))=h:=ht
  have k295:=bA1 _ hla
  rw [ht] at k295
  rw [rY (zM x r)]
  unfold aDB at k295
  generalize x::r=l at hl0 k295 hlen⊢
  refine Wk ?_
  rw [aK,show((l.length:Int)==0)=false from beq_eq_false_iff_ne.2 (by omega)]
  refine Wk ?_
  rw [aK,aO (n:=(l.length:Int)-1) (by omega) (by omega),show(l.length:Int)-1=((l.length-1:Nat):Int) by omega]
  first |refine aB (⟨rfl,by omega,by omega⟩) ?_ |refine aH (fun _=>⟨rfl,by omega,by omega⟩) ?_ |refine⟨fun _=>⟨rfl,by omega,by omega⟩,?_⟩
  rw [zC,jN E l _ (by omega)]
  refine cC k295 ?_
  rw [beq_self_eq_true]
  try subst hk
  exact Lf
def kH(i:Int):List Nat→Nat→Int
 | [],_=> -1
 |x::r,k=>bif (x:Int)==i then(k:Int) else kH i r (k+1)
theorem aDV {i:Int} :∀ {l:List Nat} {k:Nat},(0≤kH i l k→(k:Int)≤kH i l k∧kH i l k<k+l.length∧((l.getD ((kH i l k).toNat-k) 0:Nat):Int)=i)∧(kH i l k<0→∀x∈l,(x:Int)≠i)
 | [],k=>⟨fun h=>by simp [kH] at h,fun _ x hx=>absurd hx zZ⟩
 |y::r,k=>by
  rw [kH]
  cases hy:((y:Int)==i) with
  |true=>
   have hy:(y:Int)=i:=by simpa using hy
   refine⟨fun _=>⟨Int.le_refl _,by simp;omega,by simpa using hy⟩,fun h=>?_⟩
   simp only [cond_true] at h;omega
  |false=>
   have hy:(y:Int)≠i:=by simpa using hy
   obtain⟨h1,h2⟩:=aDV (i:=i) (l:=r) (k:=k+1)
   simp only [cond_false]
   refine⟨fun h=>?_,fun h x hx=>?_⟩
   ·obtain⟨a1,a2,a3⟩:=h1 h
    first |refine bA (by omega) (by simp only [zS];omega) ?_ |refine aB ⟨by omega,by simp only [zS];omega⟩ ?_ |refine⟨by omega,by simp only [zS];omega,?_⟩
    rw [show(kH i r (k+1)).toNat-k=((kH i r (k+1)).toNat- (k+1))+1 by omega]
    exact a3
   ·rcases List.mem_cons.1 hx with rfl |hx
    ·exact hy
    ·exact h2 h x hx
set_option maxRecDepth 20000 in
theorem aZL(E:cK)(l:List Nat)(i:Int)(hl:l.length≤100000):aN Tryz.prog 217 [] [aPT E l,.int .i64 i] (.int .i64 (kH i l 0)) []:=by
 cases l with
 |nil=>
  refine aF (ob0:= []) [] Tryz.func217 rfl rfl rfl rfl ?_
  refine Wk ?_
  refine⟨Unit,fun _=>True,fun _=>⟨[(0,⟨[],true,bP⟩),(1,⟨[],true,.int .i64 i⟩),(5,⟨[],true,.int .i64 0⟩)],[],0⟩,fun _=>0,⟨(),trivial,?_⟩,fun _ _=>?_⟩
  ·exact Vw []
  refine Wk ?_
  try subst hk
  exact Lf
 |cons x r=>
  rw [rY (zM x r)]
  generalize x::r=l at hl⊢
  generalize hk:kH i l 0=q
  refine aF (ob0:= []) [] Tryz.func217 rfl rfl rfl rfl ?_
  refine Wk ?_
  refine⟨Nat,fun k=>k≤l.length∧kH i (l.drop k) k=q,fun k=>⟨[(0,⟨[],true,.lst 3 false (bK E l)⟩),(1,⟨[],true,.int .i64 i⟩),(5,⟨[],true,.int .i64 (k:Int)⟩)],[],0⟩,fun k=>l.length-k,⟨0,⟨zL _,hk⟩,?_⟩,fun k hI=>?_⟩
  ·exact Vw []
  obtain⟨hI1,hI2⟩:=hI
  dsimp only at hI1 hI2⊢
  refine Wk ?_
  rw [aK]
  refine aC (fun b1=>?_) (fun b1=>?_)<;> try simp only [zD,zA,zF,zE,zG] at b1
  ·have b1:k<l.length:=by simp at b1;omega
   have hst:kH i (l.drop k) k=bif ((l.getD k 0:Nat):Int)==i then(k:Int) else kH i (l.drop (k+1)) (k+1):=by
    rw [List.drop_eq_getElem_cons b1,kH,show l.getD k 0=l[k] by simp [zH,b1]]
   rw [hst] at hI2
   refine Wk ?_
   first |refine aB (⟨rfl,by omega,by rw [aK];omega⟩) ?_ |refine aH (fun _=>⟨rfl,by omega,by rw [aK];omega⟩) ?_ |refine⟨fun _=>⟨rfl,by omega,by rw [aK];omega⟩,?_⟩
   rw [zC,jN E l k b1]
   refine Wk ?_
   refine aC (fun b2=>?_) (fun b2=>?_)<;> try simp only [zD,zA,zF,zE,zG] at b2
   ·rw [b2,cond_true] at hI2
    subst hI2
    refine Wk ?_
    try subst hk
    exact Lf
   rw [b2,cond_false] at hI2
   refine Wk ?_
   rw [dG (by omega)]
   refine⟨k+1,⟨by show k+1≤_;omega,hI2⟩,?_,by show l.length- (k+1)<l.length-k;omega⟩
   exact Vw []
  have b1:k=l.length:=by simp at b1;omega
  subst b1
  rw [List.drop_length,kH] at hI2
  subst hI2
  refine Wk ?_
  try subst hk
  exact Lf
theorem aZK {E:cK} (hE:bG E)(h:Nat)(hh:h≤2)(ht:aUS (bN E 0 (4^h)) h):aN Tryz.prog 216 [] [.agg (.int .i64 (h:Int)::sub E h 0)] (aPT E (bN E 0 (4^h))) []:=by
 have k218:=aTI hE h hh ht
 have k293:=aTS hE h (by omega)
 obtain⟨k0,k1,k2,k3,e⟩:=gZ hE h 0
 rw [e] at k218 k293⊢
 generalize bN E 0 (4^h)=l at k293⊢
 cases l with
 |nil=>
  refine aF (ob0:= []) [] Tryz.func216 rfl rfl rfl rfl ?_
  refine vJ k218 k293 ?_
  try subst hk
  exact Lf
 |cons x r=>
  rw [rY (zM x r)] at k293⊢
  generalize x::r=l at k293⊢
  refine aF (ob0:= []) [] Tryz.func216 rfl rfl rfl rfl ?_
  refine vJ k218 k293 ?_
  try subst hk
  exact Lf
def tW(E:cK)(i:Int):Int:=bif decide (0≤i) then(E i.toNat).1 else 0
theorem bEZ {E:cK} (hE:bG E)(h:Nat)(hh:h≤2)(ht:aUS (bN E 0 (4^h)) h)(hs:∀i,4^h≤i→(E i).1=0)(i:Int):aN Tryz.prog 117 [] [.agg (.int .i64 (h:Int)::sub E h 0),.int .i64 i] (.int .i64 (tW E i)) []:=by
 have hp:4^h≤16:=zN (n:=4) (by decide) hh
 have k216:=aZK hE h hh ht
 have hlen:=jY E 0 (4^h)
 have k217:=aZL E (bN E 0 (4^h)) i (by omega)
 obtain⟨hg1,hg2⟩:=aDV (i:=i) (l:=bN E 0 (4^h)) (k:=0)
 have hv0:kH i (bN E 0 (4^h)) 0<0→tW E i=0:=fun hn=>by
  unfold tW
  by_cases h0:0≤i
  ·rw [decide_eq_true h0,cond_true]
   by_cases h1:i.toNat<4^h
   ·by_cases h2:(E i.toNat).1=0
    ·exact h2
    ·exact absurd (by omega) (hg2 hn i.toNat (iX.2 ⟨by omega,by omega,h2⟩))
   ·exact hs _ (by omega)
  ·rw [decide_eq_false h0];rfl
 have hv1:0≤kH i (bN E 0 (4^h)) 0→(E ((bN E 0 (4^h)).getD (kH i (bN E 0 (4^h)) 0).toNat 0)).1=tW E i:=fun hn=>by
  obtain⟨a1,a2,a3⟩:=hg1 hn
  rw [Nat.sub_zero] at a3
  unfold tW
  rw [decide_eq_true (show 0≤i by omega),cond_true]
  generalize(bN E 0 (4^h)).getD (kH i (bN E 0 (4^h)) 0).toNat 0=y at a3
  rw [show i.toNat=y by omega]
 obtain⟨k0,k1,k2,k3,e⟩:=gZ hE h 0
 rw [e] at k216⊢
 generalize bN E 0 (4^h)=l at *
 generalize tW E i=q at *
 clear hg2
 cases l with
 |nil=>
  rw [hv0 (show(-1:Int)<0 by decide)]
  refine aF (ob0:= []) [] Tryz.func117 rfl rfl rfl rfl ?_
  refine vJ k216 k217 ?_
  try subst hk
  exact Lf
 |cons x r=>
  rw [rY (zM x r)] at k216 k217
  generalize x::r=l at *
  generalize kH i l 0=p at *
  refine aF (ob0:= []) [] Tryz.func117 rfl rfl rfl rfl ?_
  refine vJ k216 k217 ?_
  refine aC (fun c1=>?_) (fun c1=>?_)<;> try simp only [zD,zA,zF,zE,zG] at c1
  ·have c1:0≤p:=by simpa using c1
   obtain⟨a1,a2,a3⟩:=hg1 c1
   obtain⟨n,rfl⟩:∃n:Nat,p=n:=⟨p.toNat,by omega⟩
   have hv1:=hv1 c1
   rw [zC] at hv1
   refine Wk ?_
   first |refine aB (⟨rfl,by omega,by rw [aK];omega⟩) ?_ |refine aH (fun _=>⟨rfl,by omega,by rw [aK];omega⟩) ?_ |refine⟨fun _=>⟨rfl,by omega,by rw [aK];omega⟩,?_⟩
   rw [zC,jN E l n (by omega)]
   refine Wk ?_
   rw [hv1]
   try subst hk
   exact Lf
  have c1:p<0:=by simpa using c1
  rw [hv0 c1]
  refine Wk ?_
  try subst hk
  exact Lf
end Go.Proofs.YtmhapcbjjpadnaaGreat
set_option maxRecDepth 40000
namespace Go.Proofs.YtmhapcbjjpadnaaGreat
open Go Go.Sk Go.RowKit
set_option maxRecDepth 20000 in
theorem bCK {E:cK} (hE:bG E)(h:Nat)(hh:h≤4)(hn:fF E 0 (4^h)=false):aN Tryz.prog 293 [] [bP,.agg (sub E h 0),.int .i64 (h:Int),.int .i64 0] (.sl 0 0 (bN E 0 (4^h)).length) [.row 3 (bK E (bN E 0 (4^h)))]:=by
 cases h with
 |zero=>
  have hv:(E 0).1≠0:=by simpa [fF] using hn
  have hi:bN E 0 (4^0)=[0]:=by
   show []++(bif (E (0+0)).1==0 then [] else [0+0])=[0]
   rw [zY,show((E 0).1==0)=false by simpa using hv];rfl
  rw [sub,hi]
  refine aF (ob0:= []) [] Tryz.func293 rfl rfl rfl rfl ?_
  refine cC (aDO _ _ hv) ?_
  try subst hk
  exact⟨[some 2],Cl,rfl,Cl,rfl,Cl⟩
 |succ h=>
  rw [gH hn]
  generalize((kL E 0 (4^(h+1)):Nat):Int)=M
  have hp:=aC8 (h:=h+1) hh
  have hp':=dF h
  refine aF (ob0:= []) [] Tryz.func293 rfl rfl rfl rfl ?_
  refine cC (aDN (kids E h 0) 0 M rfl) ?_
  refine⟨Nat,fun i=>i≤4,fun i=>⟨[(0,⟨[],true,.sl 0 0 (bN E 0 (i*4^h)).length⟩),(2,⟨[],true,.int .i64 ((h+1:Nat):Int)⟩),(3,⟨[],true,.int .i64 0⟩),(5,⟨[],true,.ptr 1 0 0⟩),(9,⟨[],true,.int .i64 (i:Int)⟩)],[(0,.row 3 (bK E (bN E 0 (i*4^h)))),(1,.box [.lst 3 false (kids E h 0),.int .i64 0,.int .i64 M])],2⟩,fun i=>4-i,⟨0,zL _,?_⟩,fun i hI=>?_⟩
  ·dsimp only
   rw [zP,bN]
   exact Vw [none,some 0]
  dsimp only at hI⊢
  refine Wk ?_
  refine aC (fun b1=>?_) (fun b1=>?_)<;> try simp only [zD,zA,zF,zE,zG] at b1
  ·have b1:i<4:=by simp at b1;omega
   have hiq:i*4^h≤3*4^h:=zI _ (by omega)
   have hlen:=jY E 0 (i*4^h)
   have hg:=eD E h 0 i b1
   rw [zT] at hg
   obtain⟨k0,k1,k2,k3,e⟩:=gZ hE h (i*4^h)
   have ih':=bA0 hE h (i*4^h) (by omega) (by omega) (bN E 0 (i*4^h)) (by omega)
   rw [e] at ih' hg
   refine Wk ?_
   first |refine aB (⟨rfl,by omega,by show(i:Int)<4;omega⟩) ?_ |refine aH (fun _=>⟨rfl,by omega,by show(i:Int)<4;omega⟩) ?_ |refine⟨fun _=>⟨rfl,by omega,by show(i:Int)<4;omega⟩,?_⟩
   rw [zC,hg]
   refine Wk ?_
   rw [aO (n:=((h+1:Nat):Int)-1) (by omega) (by omega),show(((h+1:Nat):Int)-1)=(h:Int) by omega]
   refine cC (aJY h (by omega)) ?_
   rw [show(i:Int)*((4^h:Nat):Int)=((i*4^h:Nat):Int) from(zO _ _).symm,aO (n:=((i*4^h:Nat):Int)) (by omega) (by omega)]
   refine Wk ?_
   rw [aO (n:=(0:Int)+((i*4^h:Nat):Int)) (by omega) (by omega),Int.zero_add]
   refine Wk ?_
   refine .mov ⟨fun _=>⟨[0],_,_,_,ih',⟨rfl,trivial⟩,rfl,rfl,?_⟩,(by intro h;cases h)⟩
   refine Wk ?_
   rw [dG (by omega)]
   refine⟨i+1,by show i+1≤4;omega,?_,by show 4- (i+1)<4-i;omega⟩
   dsimp only
   rw [vX,zT (i*4^h)]
   exact Vw [some 9456,some 1]
  have b1:i=4:=by simp at b1;omega
  subst b1
  rw [←hp']
  refine Wk ?_
  try subst hk
  exact⟨[some 0],Cl,rfl,Cl,rfl,Cl⟩
theorem bCF {E:cK} (hE:bG E)(h:Nat)(hh:h≤2)(ht:aUS (bN E 0 (4^h)) h)(hn:fF E 0 (4^h)=false):aN Tryz.prog 216 [] [.agg (.int .i64 (h:Int)::sub E h 0)] (.sl 0 0 (bN E 0 (4^h)).length) [.row 3 (bK E (bN E 0 (4^h)))]:=by
 have k218:=aTI hE h hh ht
 have k293:=bCK hE h (by omega) hn
 obtain⟨k0,k1,k2,k3,e⟩:=gZ hE h 0
 rw [e] at k218 k293⊢
 generalize bN E 0 (4^h)=l at k293⊢
 refine aF (ob0:= []) [] Tryz.func216 rfl rfl rfl rfl ?_
 refine cC k218 ?_
 refine .inr ⟨fun _=>⟨[],_,_,_,k293,trivial,rfl,rfl,rfl,?_⟩,(by intro h;cases h)⟩
 refine Wk ?_
 try subst hk
 exact⟨[some 1],Cl,rfl,Cl,rfl,Cl⟩
def inB(a q:Nat)(j:Nat):Bool:=bif decide ((a:Int)≤(j:Int)) then decide ((j:Int)- (a:Int)< (q:Int)) else false
theorem aGX {a q j:Nat} :inB a q j=true↔a≤j∧j<a+q:=by
 unfold inB
 by_cases h:(a:Int)≤(j:Int)
 ·rw [decide_eq_true h,cond_true,decide_eq_true_eq];omega
 ·rw [decide_eq_false h,cond_false];simp;omega
theorem qT {α:Type} (p:α→Bool)(l:List α)(k:Nat)(d:α)(h:k<l.length):(l.take (k+1)).filter p=bif p (l.getD k d) then(l.take k).filter p++ [l.getD k d] else(l.take k).filter p:=by
 rw [aBF d h,List.filter_append]
 generalize l.getD k d=x
 cases hp:p x <;> simp [hp]
set_option maxRecDepth 20000 in
theorem bGD {E:cK} (hE:bG E):∀(h a:Nat) (l:List Nat) (t:Bool),h≤4→a+4^h≤256→(∀j,a≤j→j<a+4^h→(j∈l↔(E j).1≠0))→(∀j∈l,j<256)→l.length≤100000→
 aN Tryz.prog 296 [] [.lst 3 t (bK E l),.int .i64 (h:Int),.int .i64 (a:Int)] (.agg (sub E h a)) []:=by
 intro h
 induction h using Nat.strongRecOn with
 |ind h ih=>
  intro a l t hh h2 hm hmem hll
  have hp:=aC8 hh
  have ha:a≤256:=Nat.le_trans (Nat.le_add_right a (4^h)) h2
  have hin:=rfl (a:=l.filter (inB a (4^h)))
  generalize hG:l.filter (inB a (4^h))=G at hin
  have hGm:∀j,a≤j→j<a+4^h→(j∈G↔(E j).1≠0):=fun j h3 h4=>by
   rw [←hG,List.mem_filter,←hm j h3 h4]
   exact⟨fun h=>h.1,fun h=>⟨h,aGX.2 ⟨h3,h4⟩⟩⟩
  have hGi:∀j∈G,a≤j∧j<a+4^h∧j<256:=fun j hj=>by
   rw [←hG,List.mem_filter] at hj
   exact⟨(aGX.1 hj.2).1,(aGX.1 hj.2).2,hmem j hj.1⟩
  have hGl:G.length≤100000:=by rw [←hG];exact Nat.le_trans (zV _ _) hll
  have hGn:fF E a (4^h)=true↔G=[]:=by
   rw [gP,List.eq_nil_iff_forall_not_mem]
   refine⟨fun h j hj=>?_,fun h i hi=>?_⟩
   ·obtain⟨a1,a2,-⟩:=hGi j hj
    have :=h (j-a) (by omega)
    rw [show a+(j-a)=j by omega] at this
    exact(hGm j a1 a2).1 hj this
   ·by_cases h0:(E (a+i)).1=0
    ·exact h0
    ·exact absurd ((hGm (a+i) (by omega) (by omega)).2 h0) (h _)
  refine aF (ob0:= []) [.s 44] Tryz.func296 rfl rfl rfl rfl ?_
  refine Wk ?_
  refine⟨Nat,fun k=>k≤l.length,fun k=>⟨[(0,⟨[],true,.lst 3 t (bK E l)⟩),(1,⟨[],true,.int .i64 (h:Int)⟩),(2,⟨[],true,.int .i64 (a:Int)⟩),(6,⟨[],true,.ptr 0 0 0⟩),(7,⟨[],true,.sl 1 0 ((l.take k).filter (inB a (4^h))).length⟩),(8,⟨[],true,.int .i64 (k:Int)⟩)],
   [(0,.box [bP,.int .i64 0,.int .i64 0]),(1,.row 3 (bK E ((l.take k).filter (inB a (4^h)))))],2⟩,fun k=>l.length-k,⟨0,zL _,?_⟩,fun k hI=>?_⟩
  ·exact Vw [some 0,none]
  dsimp only at hI⊢
  have hfl:((l.take k).filter (inB a (4^h))).length≤100000:=by
   have :=zV (inB a (4^h)) (l.take k)
   have :=List.length_take_le k l
   omega
  refine Wk ?_
  rw [aK]
  refine aC (fun b1=>?_) (fun b1=>?_)<;> try simp only [zD,zA,zF,zE,zG] at b1
  ·have b1:k<l.length:=by simp at b1;omega
   have hft:=qT (inB a (4^h)) l k 0 b1
   have hib:(bif decide ((a:Int)≤((l.getD k 0:Nat):Int)) then decide (((l.getD k 0:Nat):Int)- (a:Int)< ((4^h:Nat):Int)) else false)=inB a (4^h) (l.getD k 0):=rfl
   have hg:=jN E l k b1
   have hj:=hmem _ (show l.getD k 0∈l by simp only [zH,b1,zQ,yA];exact yB b1)
   generalize l.getD k 0=j at hft hib hg hj
   generalize hF:(l.take k).filter (inB a (4^h))=F at hft hfl
   refine Wk ?_
   first |refine aB (⟨rfl,by omega,by rw [aK];omega⟩) ?_ |refine aH (fun _=>⟨rfl,by omega,by rw [aK];omega⟩) ?_ |refine⟨fun _=>⟨rfl,by omega,by rw [aK];omega⟩,?_⟩
   rw [zC,hg]
   refine Wk ?_
   first |refine aB (⟨rfl,by omega,by rw [aK];omega⟩) ?_ |refine aH (fun _=>⟨rfl,by omega,by rw [aK];omega⟩) ?_ |refine⟨fun _=>⟨rfl,by omega,by rw [aK];omega⟩,?_⟩
   rw [zC,hg]
   refine Wk ?_
   rw [aO (n:=(j:Int)- (a:Int)) (by omega) (by omega)]
   refine cC (aJY h hh) ?_
   rw [hib]
   refine aC (fun b2=>?_) (fun b2=>?_)<;> try simp only [zD,zA,zF,zE,zG] at b2
   ·rw [b2,cond_true] at hft
    refine Wk ?_
    first |refine aB (⟨rfl,by omega,by rw [aK];omega⟩) ?_ |refine aH (fun _=>⟨rfl,by omega,by rw [aK];omega⟩) ?_ |refine⟨fun _=>⟨rfl,by omega,by rw [aK];omega⟩,?_⟩
    rw [zC,hg]
    refine Wk ?_
    refine aB (aK E F).symm (bA (by rw [aK];show((F.length+1:Nat):Int)≤_;omega) (by rw [aK];show(F.length+1)*24≤_;omega) ?_)
    refine Wk ?_
    rw [dG (by omega)]
    refine⟨k+1,by show k+1≤_;omega,?_,by show l.length- (k+1)<l.length-k;omega⟩
    dsimp only
    rw [hft]
    refine bT [some 0,some 6449] rfl rfl ?_ rfl ?_ rfl ?_
    repeat' (first |exact trivial |rfl |exact .inl rfl |exact .inr rfl |exact id |exact(fun h=>Bool.noConfusion h)|refine And.intro ?_ ?_)
    ·show bK E F++ [mZ E j]=_
     simp [bK]
    ·show(bK E F).length+1=_
     rw [aK,zK];rfl
   rw [b2,cond_false] at hft
   refine Wk ?_
   rw [dG (by omega)]
   refine⟨k+1,by show k+1≤_;omega,?_,by show l.length- (k+1)<l.length-k;omega⟩
   dsimp only
   rw [hft]
   exact Vw [some 0,some 1]
  have b1:k=l.length:=by simp at b1;omega
  subst b1
  rw [List.take_length,hG]
  refine Wk ?_
  refine⟨Unit,fun _=>True,fun _=>⟨[(1,⟨[],true,.int .i64 (h:Int)⟩),(2,⟨[],true,.int .i64 (a:Int)⟩),(6,⟨[],true,.ptr 0 0 0⟩),(7,⟨[],true,.lst 3 false (bK E G)⟩),(44,⟨[],true,.lst 3 false (bK E G)⟩)],
   [(0,.box [bP,.int .i64 0,.int .i64 0])],1⟩,?_,fun _ _=>?_⟩
  ·refine Wk ?_
   refine⟨(),trivial,?_⟩
   refine bT [some 0] rfl rfl ?_ rfl ?_ rfl ?_
   repeat' (first |exact trivial |rfl |exact .inl rfl |exact .inr rfl |exact id |exact(fun h=>Bool.noConfusion h)|refine And.intro ?_ ?_)
   all_goals first |exact bW rfl (aK _ _)| (rw [aK];omega)
  refine Wk ?_
  rw [aK]
  cases hn:fF E a (4^h) with
  |true=>
   rw [dP hE hn,hGn.1 hn]
   refine Wk ?_
   try subst hk
   exact Lf
  |false=>
   have hne:G≠ []:=fun e=>by rw [hGn.2 e] at hn;cases hn
   have hl0:0<G.length:=List.length_pos_iff.2 hne
   rw [show((G.length:Int)==0)=false from beq_eq_false_iff_ne.2 (by omega)]
   cases h with
   |zero=>
    have hg0:(bK E G).getD (Int.toNat 0) []=mZ E a:=by
     cases G with
     |nil=>exact absurd rfl hne
     |cons x r=>
      obtain⟨a1,a2,-⟩:=hGi x List.mem_cons_self
      have :x=a:=by have :(4:Nat)^0=1:=rfl;omega
      subst this;rfl
    rw [sub]
    refine Wk ?_
    first |refine aB (⟨rfl,by decide,by rw [aK];omega⟩) ?_ |refine aH (fun _=>⟨rfl,by decide,by rw [aK];omega⟩) ?_ |refine⟨fun _=>⟨rfl,by decide,by rw [aK];omega⟩,?_⟩
    rw [hg0]
    refine Wk ?_
    first |refine aB (⟨rfl,by decide,by rw [aK];omega⟩) ?_ |refine aH (fun _=>⟨rfl,by decide,by rw [aK];omega⟩) ?_ |refine⟨fun _=>⟨rfl,by decide,by rw [aK];omega⟩,?_⟩
    rw [hg0]
    refine Wk ?_
    try subst hk
    exact Lf
   |succ h=>
    rw [gH hn]
    have hp':=dF h
    have hkl:(kids E h a).length=4:=rfl
    refine Wk ?_
    refine⟨Nat,fun i=>i≤4,fun i=>⟨[(1,⟨[],true,.int .i64 ((h+1:Nat):Int)⟩),(2,⟨[],true,.int .i64 (a:Int)⟩),(6,⟨[],true,.ptr 0 0 0⟩),(7,⟨[],true,.lst 3 false (bK E G)⟩),(9,⟨[],true,.ptr 1 0 0⟩),(10,⟨[],true,.int .i64 (i:Int)⟩)],
     [(0,.box [bP,.int .i64 0,.int .i64 0]),(1,.box [.sl 2 0 i,.int .i64 0,.int .i64 ((kL E a (i*4^h):Nat):Int)]),(2,.row 3 ((kids E h a).take i))],3⟩,fun i=>4-i,⟨0,zL _,?_⟩,fun i hI=>?_⟩
    ·dsimp only
     rw [zP]
     exact Vw [some 0,some 1,none]
    dsimp only at hI⊢
    have hkt:((kids E h a).take i).length=i:=by rw [List.length_take,hkl];omega
    refine Wk ?_
    refine aC (fun b2=>?_) (fun b2=>?_)<;> try simp only [zD,zA,zF,zE,zG] at b2
    ·have b2:i<4:=by simp at b2;omega
     have hiq:i*4^h≤3*4^h:=zI _ (by omega)
     obtain⟨k0,k1,k2,k3,e⟩:=gZ hE h (a+i*4^h)
     have k296:=ih h (Nat.lt_succ_self h) (a+i*4^h) G false (by omega) (by omega) (fun j h3 h4=>hGm j (by omega) (by omega)) (fun j hj=>(hGi j hj).2.2) hGl
     have hkg:(kids E h a).take (i+1)=(kids E h a).take i++ [sub E h (a+i*4^h)]:=by rw [aBF [] (by rw [hkl];exact b2),eD E h a i b2]
     rw [e] at k296 hkg
     refine Wk ?_
     rw [aO (n:=((h+1:Nat):Int)-1) (by omega) (by omega),show(((h+1:Nat):Int)-1)=(h:Int) by omega]
     refine cC (aJY h (by omega)) ?_
     rw [show(i:Int)*((4^h:Nat):Int)=((i*4^h:Nat):Int) from(zO _ _).symm,aO (n:=((i*4^h:Nat):Int)) (by omega) (by omega)]
     refine Wk ?_
     rw [aO (n:=(a:Int)+((i*4^h:Nat):Int)) (by omega) (by omega),show(a:Int)+((i*4^h:Nat):Int)=((a+i*4^h:Nat):Int) from(Int.natCast_add _ _).symm]
     refine cC k296 ?_
     refine aB hkt.symm (bA (by rw [hkt];show((i+1:Nat):Int)≤_;omega) (by rw [hkt];show(i+1)*40≤_;omega) ?_)
     refine Wk ?_
     rw [eM (pH hE) (pH hE),uT,dG (by omega)]
     refine⟨i+1,by show i+1≤4;omega,?_,by show 4- (i+1)<4-i;omega⟩
     dsimp only
     rw [hkg]
     refine bT [some 0,some 1,some 5] rfl rfl ?_ rfl ?_ rfl ?_
     repeat' (first |exact trivial |rfl |exact .inl rfl |exact .inr rfl |exact id |exact(fun h=>Bool.noConfusion h)|refine And.intro ?_ ?_)
     show((kids E h a).take i).length+1=_
     rw [hkt]
    have b2:i=4:=by simp at b2;omega
    subst b2
    rw [←hp']
    refine Wk ?_
    refine⟨[],trivial,rfl,trivial,rfl,?_⟩
    try subst hk
    repeat' (first |exact trivial |rfl |exact .inl rfl |exact .inr rfl |exact id |exact(fun h=>Bool.noConfusion h)|refine And.intro ?_ ?_)
    exact yC 4
end Go.Proofs.YtmhapcbjjpadnaaGreat
