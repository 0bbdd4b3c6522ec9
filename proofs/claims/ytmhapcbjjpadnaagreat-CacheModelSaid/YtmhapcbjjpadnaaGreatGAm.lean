/- Caches. -/
import Derived.Test.YtmhapcbjjpadnaaGreatG8m
import Derived.Test.YtmhapcbjjpadnaaGreatG7m
set_option linter.unusedSimpArgs false
set_option linter.unusedVariables false
open Bool renaming cond_false_right→zA,cond_true_left→zC,not_eq_false'→zE,not_eq_true'→zF,not_not→zG,and_eq_true→zP
open Int renaming toNat_natCast→zD,natCast_mul→zM
open List renaming getD_eq_getElem?_getD→zH,length_append→zK,getElem?_eq_getElem→zO,length_cons→zQ,append_nil→zS,length_filter_le→zT,append_assoc→zW,not_mem_nil→zY,getElem_mem→yA,cons_ne_nil→yB
open Nat renaming mul_le_mul_right→zI,add_assoc→zJ,zero_le→zL,zero_mul→zN,zero_add→zR,pow_le_pow_right→zU,succ_mul→zV,add_zero→zX,le_refl→yC
open Option renaming getD_some→zZ
set_option linter.constructorNameAsVariable false
set_option maxRecDepth 40000
namespace Go.Proofs.YtmhapcbjjpadnaaGreat
open Go Go.Sk Go.RowKit
abbrev cI:=Nat→Int×Nat
structure bK(E:cI):Prop where
 small:∀i,(E i).2<8
 none:∀i,(E i).1≤0→(E i).2=0
def fA(E:cI)(at_:Nat):Nat→Bool
 |0=>true
 |n+1=>fA E at_ n&&(E (at_+n)).1==0
def lS(E:cI)(at_:Nat):Nat→Nat
 |0=>0
 |n+1=>lS E at_ n ||| (E (at_+n)).2
theorem gG {E:cI} {a:Nat} :∀ {n:Nat},fA E a n=true↔∀i,i<n→(E (a+i)).1=0
 |0=>by simp [fA]
 |n+1=>by
  simp only [fA,zP,gG (n:=n),beq_iff_eq]
  refine⟨fun h i hi=>?_,fun h=>⟨fun i hi=>h i (by omega),h n (by omega)⟩⟩
  by_cases e:i=n
  ·subst e;exact h.2
  ·exact h.1 i (by omega)
theorem aGN {E:cI} {a m:Nat} :∀ {n:Nat},fA E a (m+n)=(fA E a m&&fA E (a+m) n)
 |0=>by simp [fA]
 |n+1=>by
  rw [←zJ]
  simp only [fA]
  rw [aGN (n:=n),zJ,Bool.and_assoc]
theorem aNY {E:cI} {a m:Nat} :∀ {n:Nat},lS E a (m+n)=lS E a m ||| lS E (a+m) n
 |0=>by simp [lS]
 |n+1=>by
  rw [←zJ]
  simp only [lS]
  rw [aNY (n:=n),zJ,Nat.or_assoc]
theorem oZ {E:cI} (h:bK E) {a:Nat} :∀ {n:Nat},lS E a n<8
 |0=>Nat.zero_lt_succ _
 |n+1=>Nat.or_lt_two_pow (n:=3) (oZ h (n:=n)) (h.small _)
theorem aTT {E:cI} (h:bK E) {a:Nat} :∀ {n:Nat},fA E a n=true→lS E a n=0
 |0,_=>rfl
 |n+1,hn=>by
  simp only [fA,zP,beq_iff_eq] at hn
  rw [lS,aTT h hn.1,h.none _ (by omega)];rfl
def mt:List V:= [bJ,.int .i64 0,.int .i64 0]
def sub(E:cI):Nat→Nat→List V
 |0,a=> [bJ,.int .i64 (E a).1,.int .i64 ((E a).2:Int)]
 |h+1,a=>bif fA E a (4^(h+1)) then mt else
   [.lst 3 false [sub E h a,sub E h (a+4^h),sub E h (a+2*4^h),sub E h (a+3*4^h)],.int .i64 0,.int .i64 (lS E a (4^(h+1)):Nat)]
def kids(E:cI)(h a:Nat):List (List V):= [sub E h a,sub E h (a+4^h),sub E h (a+2*4^h),sub E h (a+3*4^h)]
theorem dN {E:cI} (hE:bK E):∀ {h a:Nat},fA E a (4^h)=true→sub E h a=mt
 |0,a,hn=>by
  have h0:(E a).1=0:=by simpa [fA] using hn
  rw [sub,h0,hE.none a (by omega)];rfl
 |h+1,a,hn=>by rw [sub,hn];rfl
theorem gO {E:cI} {h a:Nat} (hn:fA E a (4^(h+1))=false):sub E (h+1) a=[.lst 3 false (kids E h a),.int .i64 0,.int .i64 (lS E a (4^(h+1)):Nat)]:=by rw [sub,hn];rfl
theorem eD(E:cI)(h a i:Nat)(hi:i<4):(kids E h a).getD i []=sub E h (a+i*4^h):=by
 match i,hi with
 |0,_=>simp [kids]
 |1,_=>simp [kids]
 |2,_=>rfl
 |3,_=>rfl
theorem vX:aQ Tryz.prog 340 [] [.agg mt] (.bool true) []:=by
 refine aF (ob0:= []) [] Tryz.func340 rfl rfl rfl rfl ?_
 refine Wk ?_
 try subst hk
 exact Lf
theorem aDA(v m:Int)(hv:v≠0):aQ Tryz.prog 340 [] [.agg [bJ,.int .i64 v,.int .i64 m]] (.bool false) []:=by
 have hv:(v==0)=false:=by simpa using hv
 refine aF (ob0:= []) [] Tryz.func340 rfl rfl rfl rfl ?_
 refine Wk ?_
 rw [hv]
 refine Wk ?_
 try subst hk
 exact Lf
theorem aD9(ks:List (List V))(v m:Int)(hk:ks.length=4):aQ Tryz.prog 340 [] [.agg [.lst 3 false ks,.int .i64 v,.int .i64 m]] (.bool false) []:=by
 refine aF (ob0:= []) [] Tryz.func340 rfl rfl rfl rfl ?_
 refine Wk ?_
 rw [hk]
 refine Wk ?_
 try subst hk
 exact Lf
theorem bG8 {E:cI} (hE:bK E)(h a:Nat):aQ Tryz.prog 340 [] [.agg (sub E h a)] (.bool (fA E a (4^h))) []:=by
 cases hn:fA E a (4^h) with
 |true=>rw [dN hE hn];exact vX
 |false=>
  cases h with
  |zero=>exact aDA _ _ (by simpa [fA] using hn)
  |succ h=>rw [gO hn];exact aD9 _ _ _ rfl
theorem aJ3(h:Nat)(hh:h≤4):aQ Tryz.prog 341 [] [.int .i64 (h:Int)] (.int .i64 ((4^h:Nat):Int)) []:=by
 match h,hh with
 |0,_=>exact run_eq E1 40 (by kernel_rfl)
 |1,_=>exact run_eq E1 40 (by kernel_rfl)
 |2,_=>exact run_eq E1 40 (by kernel_rfl)
 |3,_=>exact run_eq E1 40 (by kernel_rfl)
 |4,_=>exact run_eq E1 40 (by kernel_rfl)
def htE(i:Nat):Nat:=bif Nat.beq i 0 then 0 else bif Nat.blt i 4 then 1 else 2
theorem bAA(i:Nat)(hi:i<16):aQ Tryz.prog 295 [] [.int .i64 (i:Int)] (.int .i64 (htE i:Int)) []:=by
 match i,hi with
 |0,_=>exact run_eq E1 40 (by kernel_rfl)
 |1,_=>exact run_eq E1 40 (by kernel_rfl)
 |2,_=>exact run_eq E1 40 (by kernel_rfl)
 |3,_=>exact run_eq E1 40 (by kernel_rfl)
 |4,_=>exact run_eq E1 40 (by kernel_rfl)
 |5,_=>exact run_eq E1 40 (by kernel_rfl)
 |6,_=>exact run_eq E1 40 (by kernel_rfl)
 |7,_=>exact run_eq E1 40 (by kernel_rfl)
 |8,_=>exact run_eq E1 40 (by kernel_rfl)
 |9,_=>exact run_eq E1 40 (by kernel_rfl)
 |10,_=>exact run_eq E1 40 (by kernel_rfl)
 |11,_=>exact run_eq E1 40 (by kernel_rfl)
 |12,_=>exact run_eq E1 40 (by kernel_rfl)
 |13,_=>exact run_eq E1 40 (by kernel_rfl)
 |14,_=>exact run_eq E1 40 (by kernel_rfl)
 |15,_=>exact run_eq E1 40 (by kernel_rfl)
 |n+16,hh=>exact absurd hh (by omega)
end Go.Proofs.YtmhapcbjjpadnaaGreat
set_option maxRecDepth 40000
namespace Go.Proofs.YtmhapcbjjpadnaaGreat
open Go Go.Sk Go.RowKit
theorem fX {x y:Nat} (hx:x<8)(hy:y<8):fN .or .i64 (x:Int) (y:Int)=((x ||| y:Nat):Int):=by
 have key:∀a:Fin 8,∀b:Fin 8,fN .or .i64 (a.val:Int) (b.val:Int)=((a.val ||| b.val:Nat):Int):=by decide
 exact key ⟨x,hx⟩ ⟨y,hy⟩
theorem dB(h:Nat):4^(h+1)=4*4^h:=by rw [Nat.pow_succ,Nat.mul_comm]
theorem iW {E:cI} (hE:bK E)(h a:Nat):∃k n xs v,sub E h a=[.lst k n xs,.int .i64 v,.int .i64 (lS E a (4^h):Nat)]:=by
 cases hn:fA E a (4^h) with
 |true=>rw [dN hE hn,aTT hE hn];exact⟨_,_,_,_,rfl⟩
 |false=>
  cases h with
  |zero=>exact⟨0,true,[],(E a).1,by rw [sub];simp [lS,bJ]⟩
  |succ h=>rw [gO hn];exact⟨_,_,_,_,rfl⟩
theorem uN(E:cI)(a q i:Nat):lS E a (i*q)||| lS E (a+i*q) q=lS E a ((i+1)*q):=by rw [zV,aNY]
theorem aD4(E:cI)(a q i:Nat):(bif !fA E a (i*q) then true else !fA E (a+i*q) q)= !fA E a ((i+1)*q):=by
 rw [zV,aGN];cases fA E a (i*q)<;> simp
set_option maxRecDepth 20000 in
theorem bFU {E:cI} (hE:bK E):∀(h a:Nat),h≤4→aQ Tryz.prog 294 [] [.agg (sub E h a),.int .i64 (h:Int)] (.bool true) []:=by
 intro h
 induction h with
 |zero=>
  intro a _
  cases hn:fA E a (4^0) with
  |true=>
   rw [dN hE hn]
   refine aF (ob0:= []) [] Tryz.func294 rfl rfl rfl rfl ?_
   refine dF vX ?_
   try subst hk
   exact Lf
  |false=>
   have hv:(E a).1≠0:=by simpa [fA] using hn
   have hm:=hE.small a
   have hz:=hE.none a
   rw [sub]
   generalize(E a).1=v at hv hz
   generalize(E a).2=m at hm hz
   refine aF (ob0:= []) [] Tryz.func294 rfl rfl rfl rfl ?_
   refine dF (aDA v m hv) ?_
   rw [show(v != 0)=true by simpa using hv,show decide ((0:Int)≤(m:Int))=true from decide_eq_true (by omega),show decide ((m:Int)≤7)=true from decide_eq_true (by omega),
    show(bif decide (0<v) then true else(m:Int)==0)=true by
     by_cases h0:0<v
     ·rw [decide_eq_true h0];rfl
     ·rw [hz (by omega)];cases decide (0<v)<;> rfl]
   try subst hk
   exact Lf
 |succ h ih=>
  intro a hh
  cases hn:fA E a (4^(h+1)) with
  |true=>
   rw [dN hE hn]
   refine aF (ob0:= []) [] Tryz.func294 rfl rfl rfl rfl ?_
   refine dF vX ?_
   try subst hk
   exact Lf
  |false=>
   rw [gO hn]
   generalize hM:((lS E a (4^(h+1)):Nat):Int)=M
   refine aF (ob0:= []) [] Tryz.func294 rfl rfl rfl rfl ?_
   refine dF (aD9 (kids E h a) 0 M rfl) ?_
   refine⟨Nat,fun i=>i≤4,fun i=>⟨[(1,⟨[],true,.int .i64 ((h+1:Nat):Int)⟩),(2,⟨[],true,.ptr 0 0 0⟩),(5,⟨[],true,.int .i64 ((lS E a (i*4^h):Nat):Int)⟩),(6,⟨[],true,.bool (!fA E a (i*4^h))⟩),(7,⟨[],true,.int .i64 (i:Int)⟩)],[(0,.box [.lst 3 false (kids E h a),.int .i64 0,.int .i64 M])],1⟩,fun i=>4-i,⟨0,zL _,?_⟩,fun i hI=>?_⟩
   ·refine cO [some ?k74_0] rfl rfl ?h3_74 ?h4_74 ?h5_74 ?h6_74 ?h7_74
    case' h7_74=>repeat' (first |exact trivial |rfl |exact .inl rfl |exact .inr rfl |exact id |exact(fun h=>Bool.noConfusion h)|refine And.intro ?_ ?_)
    case' h4_74=>rfl
    case' h6_74=>rfl
    case' h3_74=>repeat' (first |exact trivial |rfl |exact .inl rfl |exact .inr rfl |exact id |exact(fun h=>Bool.noConfusion h)|refine And.intro ?_ ?_)
    case' h5_74=>repeat' (first |exact trivial |rfl |exact .inl rfl |exact .inr rfl |exact id |exact(fun h=>Bool.noConfusion h)|refine And.intro ?_ ?_)
    all_goals first | (rw [zN];rfl)|skip
   dsimp only at hI⊢
   refine Wk ?_
   refine aI (fun b1=>?_) (fun b1=>?_)<;> try simp only [zC,zA,zF,zE,zG] at b1
   ·have b1:i<4:=by simp at b1;omega
    obtain⟨k0,k1,k2,k3,e⟩:=iW hE h (a+i*4^h)
    have ih':=ih (a+i*4^h) (by omega)
    have k340:=bG8 hE h (a+i*4^h)
    have hg:=eD E h a i b1
    rw [e] at ih' k340 hg
    refine Wk ?_
    first |refine aE (⟨rfl,by omega,by show(i:Int)<4;omega⟩) ?_ |refine aM (fun _=>⟨rfl,by omega,by show(i:Int)<4;omega⟩) ?_ |refine⟨fun _=>⟨rfl,by omega,by show(i:Int)<4;omega⟩,?_⟩
    rw [zD,hg]
    refine Wk ?_
    rw [aY (n:=((h+1:Nat):Int)-1) (by omega) (by omega),show(((h+1:Nat):Int)-1)=(h:Int) by omega]
    refine dF ih' ?_
    first |refine aE (⟨rfl,by omega,by show(i:Int)<4;omega⟩) ?_ |refine aM (fun _=>⟨rfl,by omega,by show(i:Int)<4;omega⟩) ?_ |refine⟨fun _=>⟨rfl,by omega,by show(i:Int)<4;omega⟩,?_⟩
    rw [zD,hg]
    refine Wk ?_
    rw [fX (oZ hE) (oZ hE),uN]
    refine Wk ?_
    first |refine aE (⟨rfl,by omega,by show(i:Int)<4;omega⟩) ?_ |refine aM (fun _=>⟨rfl,by omega,by show(i:Int)<4;omega⟩) ?_ |refine⟨fun _=>⟨rfl,by omega,by show(i:Int)<4;omega⟩,?_⟩
    rw [zD,hg]
    refine dF k340 ?_
    rw [aD4,fC (by omega)]
    refine⟨i+1,by show i+1≤4;omega,?_,by show 4- (i+1)<4-i;omega⟩
    exact Vw [some 0]
   have b1:i=4:=by simp at b1;omega
   subst b1
   rw [←dB,hn]
   subst hM
   refine Wk ?_
   rw [beq_self_eq_true]
   try subst hk
   exact Lf
end Go.Proofs.YtmhapcbjjpadnaaGreat
set_option maxRecDepth 40000
namespace Go.Proofs.YtmhapcbjjpadnaaGreat
open Go Go.Sk Go.RowKit
def bS(E:cI)(a:Nat):Nat→List Nat
 |0=> []
 |n+1=>bS E a n++(bif (E (a+n)).1==0 then [] else [a+n])
def pX(E:cI)(i:Nat):List V:= [.int .i64 (i:Int),.int .i64 (E i).1,.int .i64 ((E i).2:Int)]
def bU(E:cI)(l:List Nat):List (List V):=l.map (pX E)
theorem aN(E:cI)(l:List Nat):(bU E l).length=l.length:=List.length_map _
theorem aIJ {E:cI} {a m:Nat} :∀ {n:Nat},bS E a (m+n)=bS E a m++bS E (a+m) n
 |0=>by simp [bS]
 |n+1=>by
  rw [←zJ]
  simp only [bS]
  rw [aIJ (n:=n),zJ,zW]
theorem rN {E:cI} {a:Nat} :∀ {n:Nat},fA E a n=true→bS E a n=[]
 |0,_=>rfl
 |n+1,h=>by
  simp only [fA,zP] at h
  rw [bS,rN h.1,h.2];rfl
theorem nJ(E:cI)(a:Nat):∀n,(bS E a n).length≤n
 |0=>yC 0
 |n+1=>by
  have :=nJ E a n
  rw [bS,zK]
  cases((E (a+n)).1==0)<;> simp <;> omega
theorem vO(E:cI)(a q i:Nat):bS E a ((i+1)*q)=bS E a (i*q)++bS E (a+i*q) q:=by rw [zV,aIJ]
theorem aBQ {h:Nat} (hh:h≤4):4^h≤256:=zU (by decide) hh
set_option maxRecDepth 20000 in
theorem bA9 {E:cI} (hE:bK E):∀(h a:Nat),h≤4→a+4^h≤256→∀l:List Nat,l.length+4^h≤100000→
 FnM Tryz.prog 293 [.row 3 (bU E l)] [.sl 0 0 l.length,.agg (sub E h a),.int .i64 (h:Int),.int .i64 (a:Int)] (.sl 0 0 (l++bS E a (4^h)).length) [.row 3 (bU E (l++bS E a (4^h)))]:=by
 intro h
 induction h with
 |zero=>
  intro a _ ha l hl
  cases hn:fA E a (4^0) with
  |true=>
   rw [dN hE hn,rN hn,zS]
   refine aBM (ob0:= [.row 3 (bU E l)]) [] Tryz.func293 rfl rfl rfl rfl ?_
   refine dF vX ?_
   try subst hk
   exact⟨[some 0],Cl,rfl,Cl,rfl,Cl⟩
  |false=>
   have hv:(E a).1≠0:=by simpa [fA] using hn
   have hi:bS E a (4^0)=[a]:=by
    show []++(bif (E (a+0)).1==0 then [] else [a+0])=[a]
    rw [zX,show((E a).1==0)=false by simpa using hv];rfl
   rw [sub,hi]
   refine aBM (ob0:= [.row 3 (bU E l)]) [] Tryz.func293 rfl rfl rfl rfl ?_
   refine dF (aDA _ _ hv) ?_
   refine aE (aN E l).symm (bZ (by rw [aN];show((l.length+1:Nat):Int)≤_;omega) (by rw [aN];show(l.length+1)*24≤_;omega) ?_)
   refine Wk ?_
   try subst hk
   refine⟨[some 3],?_,rfl,?_,rfl,?_⟩
   all_goals repeat' (first |exact trivial |rfl |exact .inl rfl |exact .inr rfl |exact id |exact(fun h=>Bool.noConfusion h)|refine And.intro ?_ ?_)
   ·show bU E l++ [pX E a]=_
    simp [bU]
   ·show(bU E l).length+1=_
    rw [aN,zK];rfl
 |succ h ih=>
  intro a hh ha l hl
  cases hn:fA E a (4^(h+1)) with
  |true=>
   rw [dN hE hn,rN hn,zS]
   refine aBM (ob0:= [.row 3 (bU E l)]) [] Tryz.func293 rfl rfl rfl rfl ?_
   refine dF vX ?_
   try subst hk
   exact⟨[some 0],Cl,rfl,Cl,rfl,Cl⟩
  |false=>
   rw [gO hn]
   generalize((lS E a (4^(h+1)):Nat):Int)=M
   have hp:=aBQ (h:=h+1) hh
   have hp':=dB h
   refine aBM (ob0:= [.row 3 (bU E l)]) [] Tryz.func293 rfl rfl rfl rfl ?_
   refine dF (aD9 (kids E h a) 0 M rfl) ?_
   refine⟨Nat,fun i=>i≤4,fun i=>⟨[(0,⟨[],true,.sl 0 0 (l++bS E a (i*4^h)).length⟩),(2,⟨[],true,.int .i64 ((h+1:Nat):Int)⟩),(3,⟨[],true,.int .i64 (a:Int)⟩),(5,⟨[],true,.ptr 1 0 0⟩),(9,⟨[],true,.int .i64 (i:Int)⟩)],[(0,.row 3 (bU E (l++bS E a (i*4^h)))),(1,.box [.lst 3 false (kids E h a),.int .i64 0,.int .i64 M])],2⟩,fun i=>4-i,⟨0,zL _,?_⟩,fun i hI=>?_⟩
   ·dsimp only
    rw [zN,bS,zS]
    exact Vw [some 0,some 1]
   dsimp only at hI⊢
   refine Wk ?_
   refine aI (fun b1=>?_) (fun b1=>?_)<;> try simp only [zC,zA,zF,zE,zG] at b1
   ·have b1:i<4:=by simp at b1;omega
    have hiq:i*4^h≤3*4^h:=zI _ (by omega)
    obtain⟨k0,k1,k2,k3,e⟩:=iW hE h (a+i*4^h)
    have hlen:=nJ E a (i*4^h)
    have ih':=ih (a+i*4^h) (by omega) (by omega) (l++bS E a (i*4^h)) (by rw [zK];omega)
    have hg:=eD E h a i b1
    rw [e] at ih' hg
    refine Wk ?_
    first |refine aE (⟨rfl,by omega,by show(i:Int)<4;omega⟩) ?_ |refine aM (fun _=>⟨rfl,by omega,by show(i:Int)<4;omega⟩) ?_ |refine⟨fun _=>⟨rfl,by omega,by show(i:Int)<4;omega⟩,?_⟩
    rw [zD,hg]
    refine Wk ?_
    rw [aY (n:=((h+1:Nat):Int)-1) (by omega) (by omega),show(((h+1:Nat):Int)-1)=(h:Int) by omega]
    refine dF (aJ3 h (by omega)) ?_
    rw [show(i:Int)*((4^h:Nat):Int)=((i*4^h:Nat):Int) from(zM _ _).symm,aY (n:=((i*4^h:Nat):Int)) (by omega) (by omega)]
    refine Wk ?_
    rw [aY (n:=(a:Int)+((i*4^h:Nat):Int)) (by omega) (by omega),show(a:Int)+((i*4^h:Nat):Int)=((a+i*4^h:Nat):Int) from(Int.natCast_add _ _).symm]
    refine Wk ?_
    refine .mov ⟨fun _=>⟨[0],_,_,_,ih',⟨rfl,trivial⟩,rfl,rfl,?_⟩,(by intro h;cases h)⟩
    refine Wk ?_
    rw [fC (by omega)]
    refine⟨i+1,by show i+1≤4;omega,?_,by show 4- (i+1)<4-i;omega⟩
    dsimp only
    rw [vO,←zW]
    exact Vw [some 9456,some 1]
   have b1:i=4:=by simp at b1;omega
   subst b1
   rw [←hp']
   refine Wk ?_
   try subst hk
   exact⟨[some 0],Cl,rfl,Cl,rfl,Cl⟩
def bBX(E:cI)(l:List Nat):V:=match l with
 | []=>bJ
 |i::r=>.lst 3 false (bU E (i::r))
theorem aNA {E:cI} {a:Nat} :∀ {n:Nat},fA E a n=false→bS E a n≠ []
 |0,h=>by cases h
 |n+1,h=>by
  rw [bS]
  cases hv:((E (a+n)).1==0) with
  |false=>simp
  |true=>
   rw [fA,hv,Bool.and_true] at h
   simpa using aNA h
theorem aBO {E:cI} {l:List Nat} (h:l≠ []):bBX E l=.lst 3 false (bU E l):=by
 cases l with
 |nil=>exact absurd rfl h
 |cons i r=>rfl
set_option maxRecDepth 20000 in
theorem bCQ {E:cI} (hE:bK E)(h:Nat)(hh:h≤4):aQ Tryz.prog 293 [] [bJ,.agg (sub E h 0),.int .i64 (h:Int),.int .i64 0] (bBX E (bS E 0 (4^h))) []:=by
 cases hn:fA E 0 (4^h) with
 |true=>
  rw [dN hE hn,rN hn]
  refine aF (ob0:= []) [] Tryz.func293 rfl rfl rfl rfl ?_
  refine dF vX ?_
  try subst hk
  exact Lf
 |false=>
  rw [aBO (aNA hn)]
  cases h with
  |zero=>
   have hv:(E 0).1≠0:=by simpa [fA] using hn
   have hi:bS E 0 (4^0)=[0]:=by
    show []++(bif (E (0+0)).1==0 then [] else [0+0])=[0]
    rw [zX,show((E 0).1==0)=false by simpa using hv];rfl
   rw [sub,hi]
   refine aF (ob0:= []) [] Tryz.func293 rfl rfl rfl rfl ?_
   refine dF (aDA _ _ hv) ?_
   refine⟨[],trivial,rfl,trivial,rfl,?_⟩
   try subst hk
   repeat' (first |exact trivial |rfl |exact .inl rfl |exact .inr rfl |exact id |exact(fun h=>Bool.noConfusion h)|refine And.intro ?_ ?_)
   all_goals first |rfl |exact yC 1
  |succ h=>
   rw [gO hn]
   generalize((lS E 0 (4^(h+1)):Nat):Int)=M
   have hp:=aBQ (h:=h+1) hh
   have hp':=dB h
   refine aF (ob0:= []) [] Tryz.func293 rfl rfl rfl rfl ?_
   refine dF (aD9 (kids E h 0) 0 M rfl) ?_
   refine⟨Nat,fun i=>i≤4,fun i=>⟨[(0,⟨[],true,.sl 0 0 (bS E 0 (i*4^h)).length⟩),(2,⟨[],true,.int .i64 ((h+1:Nat):Int)⟩),(3,⟨[],true,.int .i64 0⟩),(5,⟨[],true,.ptr 1 0 0⟩),(9,⟨[],true,.int .i64 (i:Int)⟩)],[(0,.row 3 (bU E (bS E 0 (i*4^h)))),(1,.box [.lst 3 false (kids E h 0),.int .i64 0,.int .i64 M])],2⟩,fun i=>4-i,⟨0,zL _,?_⟩,fun i hI=>?_⟩
   ·dsimp only
    rw [zN,bS]
    exact Vw [none,some 0]
   dsimp only at hI⊢
   refine Wk ?_
   refine aI (fun b1=>?_) (fun b1=>?_)<;> try simp only [zC,zA,zF,zE,zG] at b1
   ·have b1:i<4:=by simp at b1;omega
    have hiq:i*4^h≤3*4^h:=zI _ (by omega)
    have hlen:=nJ E 0 (i*4^h)
    have hg:=eD E h 0 i b1
    rw [zR] at hg
    obtain⟨k0,k1,k2,k3,e⟩:=iW hE h (i*4^h)
    have ih':=bA9 hE h (i*4^h) (by omega) (by omega) (bS E 0 (i*4^h)) (by omega)
    rw [e] at ih' hg
    refine Wk ?_
    first |refine aE (⟨rfl,by omega,by show(i:Int)<4;omega⟩) ?_ |refine aM (fun _=>⟨rfl,by omega,by show(i:Int)<4;omega⟩) ?_ |refine⟨fun _=>⟨rfl,by omega,by show(i:Int)<4;omega⟩,?_⟩
    rw [zD,hg]
    refine Wk ?_
    rw [aY (n:=((h+1:Nat):Int)-1) (by omega) (by omega),show(((h+1:Nat):Int)-1)=(h:Int) by omega]
    refine dF (aJ3 h (by omega)) ?_
    rw [show(i:Int)*((4^h:Nat):Int)=((i*4^h:Nat):Int) from(zM _ _).symm,aY (n:=((i*4^h:Nat):Int)) (by omega) (by omega)]
    refine Wk ?_
    rw [aY (n:=(0:Int)+((i*4^h:Nat):Int)) (by omega) (by omega),Int.zero_add]
    refine Wk ?_
    refine .mov ⟨fun _=>⟨[0],_,_,_,ih',⟨rfl,trivial⟩,rfl,rfl,?_⟩,(by intro h;cases h)⟩
    refine Wk ?_
    rw [fC (by omega)]
    refine⟨i+1,by show i+1≤4;omega,?_,by show 4- (i+1)<4-i;omega⟩
    dsimp only
    rw [vO,zR (i*4^h)]
    exact Vw [some 9456,some 1]
   have b1:i=4:=by simp at b1;omega
   subst b1
   rw [←hp']
   refine Wk ?_
   refine⟨[],trivial,rfl,trivial,rfl,?_⟩
   try subst hk
   repeat' (first |exact trivial |rfl |exact .inl rfl |exact .inr rfl |exact id |exact(fun h=>Bool.noConfusion h)|refine And.intro ?_ ?_)
   ·rw [aN];omega
   ·exact fP rfl (aN _ _)
end Go.Proofs.YtmhapcbjjpadnaaGreat
set_option maxRecDepth 40000
namespace Go.Proofs.YtmhapcbjjpadnaaGreat
open Go Go.Sk Go.RowKit
def aCX(l:List Nat):Nat:=l.getD (l.length-1) 0
def bDE(l:List Nat)(h:Nat):Prop:=match l with
 | []=>h=0
 |l=>htE (aCX l)=h
theorem nY(E:cI)(l:List Nat)(k:Nat)(h:k<l.length):(bU E l).getD k []=pX E (l.getD k 0):=by
 simp [bU,zH,h]
theorem nK {E:cI} {a i:Nat} :∀ {n:Nat},i∈bS E a n↔a≤i∧i<a+n∧(E i).1≠0
 |0=>by simp [bS];omega
 |n+1=>by
  rw [bS,List.mem_append,nK (n:=n)]
  cases hv:((E (a+n)).1==0) with
  |true=>
   have hv:(E (a+n)).1=0:=by simpa using hv
   simp only [cond_true,zY,or_false]
   refine⟨fun h=>⟨h.1,by omega,h.2.2⟩,fun h=>⟨h.1,?_,h.2.2⟩⟩
   by_cases e:i=a+n
   ·subst e;exact absurd hv h.2.2
   ·omega
  |false=>
   have hv:(E (a+n)).1≠0:=by simpa using hv
   simp only [cond_false,List.mem_singleton]
   first |refine aI (fun h=>?_) (fun h=>?_)|refine⟨fun h=>?_,fun h=>?_⟩
   ·rcases h with h |rfl
    ·exact⟨h.1,by omega,h.2.2⟩
    ·exact⟨by omega,by omega,hv⟩
   ·by_cases e:i=a+n
    ·exact .inr e
    ·exact .inl ⟨h.1,by omega,h.2.2⟩
set_option maxRecDepth 20000 in
theorem aZX {E:cI} (hE:bK E)(h:Nat)(hh:h≤2)(ht:bDE (bS E 0 (4^h)) h):aQ Tryz.prog 218 [] [.agg (.int .i64 (h:Int)::sub E h 0)] (.bool true) []:=by
 have hp:4^h≤16:=zU (n:=4) (by decide) hh
 have k294:=bFU hE h 0 (by omega)
 have k293:=bCQ hE h (by omega)
 obtain⟨k0,k1,k2,k3,e⟩:=iW hE h 0
 have hlen:=nJ E 0 (4^h)
 have hmem:∀i∈bS E 0 (4^h),i<16:=fun i hi=>by have :=(nK.1 hi).2.1;omega
 rw [e] at k294 k293⊢
 generalize bS E 0 (4^h)=l at ht k293 hlen hmem
 refine aF (ob0:= []) [] Tryz.func218 rfl rfl rfl rfl ?_
 refine Wk2 k294 k293 ?_
 refine aI (fun c1=>?_) (fun c1=>?_)<;> try simp only [zC,zA,zF,zE,zG] at c1
 ·simp at c1;omega
 clear c1
 refine dF k293 ?_
 cases l with
 |nil=>
  obtain rfl:h=0:=ht
  refine Wk ?_
  try subst hk
  exact Lf
 |cons x r=>
  have hl0:0< (x::r).length:=Nat.zero_lt_succ _
  have hla:aCX (x::r)<16:=hmem _ (by unfold aCX;simp only [zH,show(x::r).length-1< (x::r).length by omega,zO,zZ];exact yA _)
  have ht:htE (aCX (x::r))=h:=ht
  have k295:=bAA _ hla
  rw [ht] at k295
  rw [aBO (yB x r)]
  unfold aCX at k295
  generalize x::r=l at hl0 k295 hlen⊢
  refine Wk ?_
  rw [aN,show((l.length:Int)==0)=false from beq_eq_false_iff_ne.2 (by omega)]
  refine Wk ?_
  rw [aN,aY (n:=(l.length:Int)-1) (by omega) (by omega),show(l.length:Int)-1=((l.length-1:Nat):Int) by omega]
  first |refine aE (⟨rfl,by omega,by omega⟩) ?_ |refine aM (fun _=>⟨rfl,by omega,by omega⟩) ?_ |refine⟨fun _=>⟨rfl,by omega,by omega⟩,?_⟩
  rw [zD,nY E l _ (by omega)]
  refine dF k295 ?_
  rw [beq_self_eq_true]
  try subst hk
  exact Lf
def nU(i:Int):List Nat→Nat→Int
 | [],_=> -1
 |x::r,k=>bif (x:Int)==i then(k:Int) else nU i r (k+1)
theorem aJ6 {i:Int} :∀ {l:List Nat} {k:Nat},(0≤nU i l k→(k:Int)≤nU i l k∧nU i l k<k+l.length∧((l.getD ((nU i l k).toNat-k) 0:Nat):Int)=i)∧(nU i l k<0→∀x∈l,(x:Int)≠i)
 | [],k=>⟨fun h=>by simp [nU] at h,fun _ x hx=>absurd hx zY⟩
 |y::r,k=>by
  rw [nU]
  cases hy:((y:Int)==i) with
  |true=>
   have hy:(y:Int)=i:=by simpa using hy
   refine⟨fun _=>⟨Int.le_refl _,by simp;omega,by simpa using hy⟩,fun h=>?_⟩
   simp only [cond_true] at h;omega
  |false=>
   have hy:(y:Int)≠i:=by simpa using hy
   obtain⟨h1,h2⟩:=aJ6 (i:=i) (l:=r) (k:=k+1)
   simp only [cond_false]
   refine⟨fun h=>?_,fun h x hx=>?_⟩
   ·obtain⟨a1,a2,a3⟩:=h1 h
    first |refine bZ (by omega) (by simp only [zQ];omega) ?_ |refine aE ⟨by omega,by simp only [zQ];omega⟩ ?_ |refine⟨by omega,by simp only [zQ];omega,?_⟩
    rw [show(nU i r (k+1)).toNat-k=((nU i r (k+1)).toNat- (k+1))+1 by omega]
    exact a3
   ·rcases List.mem_cons.1 hx with rfl |hx
    ·exact hy
    ·exact h2 h x hx
set_option maxRecDepth 20000 in
theorem bFF(E:cI)(l:List Nat)(i:Int)(hl:l.length≤100000):aQ Tryz.prog 217 [] [bBX E l,.int .i64 i] (.int .i64 (nU i l 0)) []:=by
 cases l with
 |nil=>
  refine aF (ob0:= []) [] Tryz.func217 rfl rfl rfl rfl ?_
  refine Wk ?_
  refine⟨Unit,fun _=>True,fun _=>⟨[(0,⟨[],true,bJ⟩),(1,⟨[],true,.int .i64 i⟩),(5,⟨[],true,.int .i64 0⟩)],[],0⟩,fun _=>0,⟨(),trivial,?_⟩,fun _ _=>?_⟩
  ·exact Vw []
  refine Wk ?_
  try subst hk
  exact Lf
 |cons x r=>
  rw [aBO (yB x r)]
  generalize x::r=l at hl⊢
  generalize hk:nU i l 0=q
  refine aF (ob0:= []) [] Tryz.func217 rfl rfl rfl rfl ?_
  refine Wk ?_
  refine⟨Nat,fun k=>k≤l.length∧nU i (l.drop k) k=q,fun k=>⟨[(0,⟨[],true,.lst 3 false (bU E l)⟩),(1,⟨[],true,.int .i64 i⟩),(5,⟨[],true,.int .i64 (k:Int)⟩)],[],0⟩,fun k=>l.length-k,⟨0,⟨zL _,hk⟩,?_⟩,fun k hI=>?_⟩
  ·exact Vw []
  obtain⟨hI1,hI2⟩:=hI
  dsimp only at hI1 hI2⊢
  refine Wk ?_
  rw [aN]
  refine aI (fun b1=>?_) (fun b1=>?_)<;> try simp only [zC,zA,zF,zE,zG] at b1
  ·have b1:k<l.length:=by simp at b1;omega
   have hst:nU i (l.drop k) k=bif ((l.getD k 0:Nat):Int)==i then(k:Int) else nU i (l.drop (k+1)) (k+1):=by
    rw [List.drop_eq_getElem_cons b1,nU,show l.getD k 0=l[k] by simp [zH,b1]]
   rw [hst] at hI2
   refine Wk ?_
   first |refine aE (⟨rfl,by omega,by rw [aN];omega⟩) ?_ |refine aM (fun _=>⟨rfl,by omega,by rw [aN];omega⟩) ?_ |refine⟨fun _=>⟨rfl,by omega,by rw [aN];omega⟩,?_⟩
   rw [zD,nY E l k b1]
   refine Wk ?_
   refine aI (fun b2=>?_) (fun b2=>?_)<;> try simp only [zC,zA,zF,zE,zG] at b2
   ·rw [b2,cond_true] at hI2
    subst hI2
    refine Wk ?_
    try subst hk
    exact Lf
   rw [b2,cond_false] at hI2
   refine Wk ?_
   rw [fC (by omega)]
   refine⟨k+1,⟨by show k+1≤_;omega,hI2⟩,?_,by show l.length- (k+1)<l.length-k;omega⟩
   exact Vw []
  have b1:k=l.length:=by simp at b1;omega
  subst b1
  rw [List.drop_length,nU] at hI2
  subst hI2
  refine Wk ?_
  try subst hk
  exact Lf
def aUW(E:cI)(i:Int):Int:=bif decide (0≤i) then(E i.toNat).1 else 0
end Go.Proofs.YtmhapcbjjpadnaaGreat
set_option maxRecDepth 40000
namespace Go.Proofs.YtmhapcbjjpadnaaGreat
open Go Go.Sk Go.RowKit
set_option maxRecDepth 20000 in
theorem bCR {E:cI} (hE:bK E)(h:Nat)(hh:h≤4)(hn:fA E 0 (4^h)=false):aQ Tryz.prog 293 [] [bJ,.agg (sub E h 0),.int .i64 (h:Int),.int .i64 0] (.sl 0 0 (bS E 0 (4^h)).length) [.row 3 (bU E (bS E 0 (4^h)))]:=by
 cases h with
 |zero=>
  have hv:(E 0).1≠0:=by simpa [fA] using hn
  have hi:bS E 0 (4^0)=[0]:=by
   show []++(bif (E (0+0)).1==0 then [] else [0+0])=[0]
   rw [zX,show((E 0).1==0)=false by simpa using hv];rfl
  rw [sub,hi]
  refine aF (ob0:= []) [] Tryz.func293 rfl rfl rfl rfl ?_
  refine dF (aDA _ _ hv) ?_
  try subst hk
  exact⟨[some 2],Cl,rfl,Cl,rfl,Cl⟩
 |succ h=>
  rw [gO hn]
  generalize((lS E 0 (4^(h+1)):Nat):Int)=M
  have hp:=aBQ (h:=h+1) hh
  have hp':=dB h
  refine aF (ob0:= []) [] Tryz.func293 rfl rfl rfl rfl ?_
  refine dF (aD9 (kids E h 0) 0 M rfl) ?_
  refine⟨Nat,fun i=>i≤4,fun i=>⟨[(0,⟨[],true,.sl 0 0 (bS E 0 (i*4^h)).length⟩),(2,⟨[],true,.int .i64 ((h+1:Nat):Int)⟩),(3,⟨[],true,.int .i64 0⟩),(5,⟨[],true,.ptr 1 0 0⟩),(9,⟨[],true,.int .i64 (i:Int)⟩)],[(0,.row 3 (bU E (bS E 0 (i*4^h)))),(1,.box [.lst 3 false (kids E h 0),.int .i64 0,.int .i64 M])],2⟩,fun i=>4-i,⟨0,zL _,?_⟩,fun i hI=>?_⟩
  ·dsimp only
   rw [zN,bS]
   exact Vw [none,some 0]
  dsimp only at hI⊢
  refine Wk ?_
  refine aI (fun b1=>?_) (fun b1=>?_)<;> try simp only [zC,zA,zF,zE,zG] at b1
  ·have b1:i<4:=by simp at b1;omega
   have hiq:i*4^h≤3*4^h:=zI _ (by omega)
   have hlen:=nJ E 0 (i*4^h)
   have hg:=eD E h 0 i b1
   rw [zR] at hg
   obtain⟨k0,k1,k2,k3,e⟩:=iW hE h (i*4^h)
   have ih':=bA9 hE h (i*4^h) (by omega) (by omega) (bS E 0 (i*4^h)) (by omega)
   rw [e] at ih' hg
   refine Wk ?_
   first |refine aE (⟨rfl,by omega,by show(i:Int)<4;omega⟩) ?_ |refine aM (fun _=>⟨rfl,by omega,by show(i:Int)<4;omega⟩) ?_ |refine⟨fun _=>⟨rfl,by omega,by show(i:Int)<4;omega⟩,?_⟩
   rw [zD,hg]
   refine Wk ?_
   rw [aY (n:=((h+1:Nat):Int)-1) (by omega) (by omega),show(((h+1:Nat):Int)-1)=(h:Int) by omega]
   refine dF (aJ3 h (by omega)) ?_
   rw [show(i:Int)*((4^h:Nat):Int)=((i*4^h:Nat):Int) from(zM _ _).symm,aY (n:=((i*4^h:Nat):Int)) (by omega) (by omega)]
   refine Wk ?_
   rw [aY (n:=(0:Int)+((i*4^h:Nat):Int)) (by omega) (by omega),Int.zero_add]
   refine Wk ?_
   refine .mov ⟨fun _=>⟨[0],_,_,_,ih',⟨rfl,trivial⟩,rfl,rfl,?_⟩,(by intro h;cases h)⟩
   refine Wk ?_
   rw [fC (by omega)]
   refine⟨i+1,by show i+1≤4;omega,?_,by show 4- (i+1)<4-i;omega⟩
   dsimp only
   rw [vO,zR (i*4^h)]
   exact Vw [some 9456,some 1]
  have b1:i=4:=by simp at b1;omega
  subst b1
  rw [←hp']
  refine Wk ?_
  try subst hk
  exact⟨[some 0],Cl,rfl,Cl,rfl,Cl⟩
theorem bCL {E:cI} (hE:bK E)(h:Nat)(hh:h≤2)(ht:bDE (bS E 0 (4^h)) h)(hn:fA E 0 (4^h)=false):aQ Tryz.prog 216 [] [.agg (.int .i64 (h:Int)::sub E h 0)] (.sl 0 0 (bS E 0 (4^h)).length) [.row 3 (bU E (bS E 0 (4^h)))]:=by
 have k218:=aZX hE h hh ht
 have k293:=bCR hE h (by omega) hn
 obtain⟨k0,k1,k2,k3,e⟩:=iW hE h 0
 rw [e] at k218 k293⊢
 generalize bS E 0 (4^h)=l at k293⊢
 refine aF (ob0:= []) [] Tryz.func216 rfl rfl rfl rfl ?_
 refine dF k218 ?_
 refine .inr ⟨fun _=>⟨[],_,_,_,k293,trivial,rfl,rfl,rfl,?_⟩,(by intro h;cases h)⟩
 refine Wk ?_
 try subst hk
 exact⟨[some 1],Cl,rfl,Cl,rfl,Cl⟩
def inB(a q:Nat)(j:Nat):Bool:=bif decide ((a:Int)≤(j:Int)) then decide ((j:Int)- (a:Int)< (q:Int)) else false
theorem aGE {a q j:Nat} :inB a q j=true↔a≤j∧j<a+q:=by
 unfold inB
 by_cases h:(a:Int)≤(j:Int)
 ·rw [decide_eq_true h,cond_true,decide_eq_true_eq];omega
 ·rw [decide_eq_false h,cond_false];simp;omega
theorem aIB {α:Type} (p:α→Bool)(l:List α)(k:Nat)(d:α)(h:k<l.length):(l.take (k+1)).filter p=bif p (l.getD k d) then(l.take k).filter p++ [l.getD k d] else(l.take k).filter p:=by
 rw [aB1 d h,List.filter_append]
 generalize l.getD k d=x
 cases hp:p x <;> simp [hp]
set_option maxRecDepth 20000 in
theorem bFV {E:cI} (hE:bK E):∀(h a:Nat) (l:List Nat) (t:Bool),h≤4→a+4^h≤256→(∀j,a≤j→j<a+4^h→(j∈l↔(E j).1≠0))→(∀j∈l,j<256)→l.length≤100000→
 aQ Tryz.prog 296 [] [.lst 3 t (bU E l),.int .i64 (h:Int),.int .i64 (a:Int)] (.agg (sub E h a)) []:=by
 intro h
 induction h using Nat.strongRecOn with
 |ind h ih=>
  intro a l t hh h2 hm hmem hll
  have hp:=aBQ hh
  have ha:a≤256:=Nat.le_trans (Nat.le_add_right a (4^h)) h2
  have hin:=rfl (a:=l.filter (inB a (4^h)))
  generalize hG:l.filter (inB a (4^h))=G at hin
  have hGm:∀j,a≤j→j<a+4^h→(j∈G↔(E j).1≠0):=fun j h3 h4=>by
   rw [←hG,List.mem_filter,←hm j h3 h4]
   exact⟨fun h=>h.1,fun h=>⟨h,aGE.2 ⟨h3,h4⟩⟩⟩
  have hGi:∀j∈G,a≤j∧j<a+4^h∧j<256:=fun j hj=>by
   rw [←hG,List.mem_filter] at hj
   exact⟨(aGE.1 hj.2).1,(aGE.1 hj.2).2,hmem j hj.1⟩
  have hGl:G.length≤100000:=by rw [←hG];exact Nat.le_trans (zT _ _) hll
  have hGn:fA E a (4^h)=true↔G=[]:=by
   rw [gG,List.eq_nil_iff_forall_not_mem]
   refine⟨fun h j hj=>?_,fun h i hi=>?_⟩
   ·obtain⟨a1,a2,-⟩:=hGi j hj
    have :=h (j-a) (by omega)
    rw [show a+(j-a)=j by omega] at this
    exact(hGm j a1 a2).1 hj this
   ·by_cases h0:(E (a+i)).1=0
    ·exact h0
    ·exact absurd ((hGm (a+i) (by omega) (by omega)).2 h0) (h _)
  refine aF (ob0:= []) [.s 44] Tryz.func296 rfl rfl rfl rfl ?_
  refine Wk ?_
  refine⟨Nat,fun k=>k≤l.length,fun k=>⟨[(0,⟨[],true,.lst 3 t (bU E l)⟩),(1,⟨[],true,.int .i64 (h:Int)⟩),(2,⟨[],true,.int .i64 (a:Int)⟩),(6,⟨[],true,.ptr 0 0 0⟩),(7,⟨[],true,.sl 1 0 ((l.take k).filter (inB a (4^h))).length⟩),(8,⟨[],true,.int .i64 (k:Int)⟩)],
   [(0,.box [bJ,.int .i64 0,.int .i64 0]),(1,.row 3 (bU E ((l.take k).filter (inB a (4^h)))))],2⟩,fun k=>l.length-k,⟨0,zL _,?_⟩,fun k hI=>?_⟩
  ·exact Vw [some 0,none]
  dsimp only at hI⊢
  have hfl:((l.take k).filter (inB a (4^h))).length≤100000:=by
   have :=zT (inB a (4^h)) (l.take k)
   have :=List.length_take_le k l
   omega
  refine Wk ?_
  rw [aN]
  refine aI (fun b1=>?_) (fun b1=>?_)<;> try simp only [zC,zA,zF,zE,zG] at b1
  ·have b1:k<l.length:=by simp at b1;omega
   have hft:=aIB (inB a (4^h)) l k 0 b1
   have hib:(bif decide ((a:Int)≤((l.getD k 0:Nat):Int)) then decide (((l.getD k 0:Nat):Int)- (a:Int)< ((4^h:Nat):Int)) else false)=inB a (4^h) (l.getD k 0):=rfl
   have hg:=nY E l k b1
   have hj:=hmem _ (show l.getD k 0∈l by simp only [zH,b1,zO,zZ];exact yA b1)
   generalize l.getD k 0=j at hft hib hg hj
   generalize hF:(l.take k).filter (inB a (4^h))=F at hft hfl
   refine Wk ?_
   first |refine aE (⟨rfl,by omega,by rw [aN];omega⟩) ?_ |refine aM (fun _=>⟨rfl,by omega,by rw [aN];omega⟩) ?_ |refine⟨fun _=>⟨rfl,by omega,by rw [aN];omega⟩,?_⟩
   rw [zD,hg]
   refine Wk ?_
   first |refine aE (⟨rfl,by omega,by rw [aN];omega⟩) ?_ |refine aM (fun _=>⟨rfl,by omega,by rw [aN];omega⟩) ?_ |refine⟨fun _=>⟨rfl,by omega,by rw [aN];omega⟩,?_⟩
   rw [zD,hg]
   refine Wk ?_
   rw [aY (n:=(j:Int)- (a:Int)) (by omega) (by omega)]
   refine dF (aJ3 h hh) ?_
   rw [hib]
   refine aI (fun b2=>?_) (fun b2=>?_)<;> try simp only [zC,zA,zF,zE,zG] at b2
   ·rw [b2,cond_true] at hft
    refine Wk ?_
    first |refine aE (⟨rfl,by omega,by rw [aN];omega⟩) ?_ |refine aM (fun _=>⟨rfl,by omega,by rw [aN];omega⟩) ?_ |refine⟨fun _=>⟨rfl,by omega,by rw [aN];omega⟩,?_⟩
    rw [zD,hg]
    refine Wk ?_
    refine aE (aN E F).symm (bZ (by rw [aN];show((F.length+1:Nat):Int)≤_;omega) (by rw [aN];show(F.length+1)*24≤_;omega) ?_)
    refine Wk ?_
    rw [fC (by omega)]
    refine⟨k+1,by show k+1≤_;omega,?_,by show l.length- (k+1)<l.length-k;omega⟩
    dsimp only
    rw [hft]
    refine cO [some 0,some 6449] rfl rfl ?_ rfl ?_ rfl ?_
    repeat' (first |exact trivial |rfl |exact .inl rfl |exact .inr rfl |exact id |exact(fun h=>Bool.noConfusion h)|refine And.intro ?_ ?_)
    ·show bU E F++ [pX E j]=_
     simp [bU]
    ·show(bU E F).length+1=_
     rw [aN,zK];rfl
   rw [b2,cond_false] at hft
   refine Wk ?_
   rw [fC (by omega)]
   refine⟨k+1,by show k+1≤_;omega,?_,by show l.length- (k+1)<l.length-k;omega⟩
   dsimp only
   rw [hft]
   exact Vw [some 0,some 1]
  have b1:k=l.length:=by simp at b1;omega
  subst b1
  rw [List.take_length,hG]
  refine Wk ?_
  refine⟨Unit,fun _=>True,fun _=>⟨[(1,⟨[],true,.int .i64 (h:Int)⟩),(2,⟨[],true,.int .i64 (a:Int)⟩),(6,⟨[],true,.ptr 0 0 0⟩),(7,⟨[],true,.lst 3 false (bU E G)⟩),(44,⟨[],true,.lst 3 false (bU E G)⟩)],
   [(0,.box [bJ,.int .i64 0,.int .i64 0])],1⟩,?_,fun _ _=>?_⟩
  ·refine Wk ?_
   refine⟨(),trivial,?_⟩
   refine cO [some 0] rfl rfl ?_ rfl ?_ rfl ?_
   repeat' (first |exact trivial |rfl |exact .inl rfl |exact .inr rfl |exact id |exact(fun h=>Bool.noConfusion h)|refine And.intro ?_ ?_)
   all_goals first |exact fP rfl (aN _ _)| (rw [aN];omega)
  refine Wk ?_
  rw [aN]
  cases hn:fA E a (4^h) with
  |true=>
   rw [dN hE hn,hGn.1 hn]
   refine Wk ?_
   try subst hk
   exact Lf
  |false=>
   have hne:G≠ []:=fun e=>by rw [hGn.2 e] at hn;cases hn
   have hl0:0<G.length:=List.length_pos_iff.2 hne
   rw [show((G.length:Int)==0)=false from beq_eq_false_iff_ne.2 (by omega)]
   cases h with
   |zero=>
    have hg0:(bU E G).getD (Int.toNat 0) []=pX E a:=by
     cases G with
     |nil=>exact absurd rfl hne
     |cons x r=>
      obtain⟨a1,a2,-⟩:=hGi x List.mem_cons_self
      have :x=a:=by have :(4:Nat)^0=1:=rfl;omega
      subst this;rfl
    rw [sub]
    refine Wk ?_
    first |refine aE (⟨rfl,by decide,by rw [aN];omega⟩) ?_ |refine aM (fun _=>⟨rfl,by decide,by rw [aN];omega⟩) ?_ |refine⟨fun _=>⟨rfl,by decide,by rw [aN];omega⟩,?_⟩
    rw [hg0]
    refine Wk ?_
    first |refine aE (⟨rfl,by decide,by rw [aN];omega⟩) ?_ |refine aM (fun _=>⟨rfl,by decide,by rw [aN];omega⟩) ?_ |refine⟨fun _=>⟨rfl,by decide,by rw [aN];omega⟩,?_⟩
    rw [hg0]
    refine Wk ?_
    try subst hk
    exact Lf
   |succ h=>
    rw [gO hn]
    have hp':=dB h
    have hkl:(kids E h a).length=4:=rfl
    refine Wk ?_
    refine⟨Nat,fun i=>i≤4,fun i=>⟨[(1,⟨[],true,.int .i64 ((h+1:Nat):Int)⟩),(2,⟨[],true,.int .i64 (a:Int)⟩),(6,⟨[],true,.ptr 0 0 0⟩),(7,⟨[],true,.lst 3 false (bU E G)⟩),(9,⟨[],true,.ptr 1 0 0⟩),(10,⟨[],true,.int .i64 (i:Int)⟩)],
     [(0,.box [bJ,.int .i64 0,.int .i64 0]),(1,.box [.sl 2 0 i,.int .i64 0,.int .i64 ((lS E a (i*4^h):Nat):Int)]),(2,.row 3 ((kids E h a).take i))],3⟩,fun i=>4-i,⟨0,zL _,?_⟩,fun i hI=>?_⟩
    ·dsimp only
     rw [zN]
     exact Vw [some 0,some 1,none]
    dsimp only at hI⊢
    have hkt:((kids E h a).take i).length=i:=by rw [List.length_take,hkl];omega
    refine Wk ?_
    refine aI (fun b2=>?_) (fun b2=>?_)<;> try simp only [zC,zA,zF,zE,zG] at b2
    ·have b2:i<4:=by simp at b2;omega
     have hiq:i*4^h≤3*4^h:=zI _ (by omega)
     obtain⟨k0,k1,k2,k3,e⟩:=iW hE h (a+i*4^h)
     have k296:=ih h (Nat.lt_succ_self h) (a+i*4^h) G false (by omega) (by omega) (fun j h3 h4=>hGm j (by omega) (by omega)) (fun j hj=>(hGi j hj).2.2) hGl
     have hkg:(kids E h a).take (i+1)=(kids E h a).take i++ [sub E h (a+i*4^h)]:=by rw [aB1 [] (by rw [hkl];exact b2),eD E h a i b2]
     rw [e] at k296 hkg
     refine Wk ?_
     rw [aY (n:=((h+1:Nat):Int)-1) (by omega) (by omega),show(((h+1:Nat):Int)-1)=(h:Int) by omega]
     refine dF (aJ3 h (by omega)) ?_
     rw [show(i:Int)*((4^h:Nat):Int)=((i*4^h:Nat):Int) from(zM _ _).symm,aY (n:=((i*4^h:Nat):Int)) (by omega) (by omega)]
     refine Wk ?_
     rw [aY (n:=(a:Int)+((i*4^h:Nat):Int)) (by omega) (by omega),show(a:Int)+((i*4^h:Nat):Int)=((a+i*4^h:Nat):Int) from(Int.natCast_add _ _).symm]
     refine dF k296 ?_
     refine aE hkt.symm (bZ (by rw [hkt];show((i+1:Nat):Int)≤_;omega) (by rw [hkt];show(i+1)*40≤_;omega) ?_)
     refine Wk ?_
     rw [fX (oZ hE) (oZ hE),uN,fC (by omega)]
     refine⟨i+1,by show i+1≤4;omega,?_,by show 4- (i+1)<4-i;omega⟩
     dsimp only
     rw [hkg]
     refine cO [some 0,some 1,some 5] rfl rfl ?_ rfl ?_ rfl ?_
     repeat' (first |exact trivial |rfl |exact .inl rfl |exact .inr rfl |exact id |exact(fun h=>Bool.noConfusion h)|refine And.intro ?_ ?_)
     show((kids E h a).take i).length+1=_
     rw [hkt]
    have b2:i=4:=by simp at b2;omega
    subst b2
    rw [←hp']
    refine Wk ?_
    refine⟨[],trivial,rfl,trivial,rfl,?_⟩
    try subst hk
    repeat' (first |exact trivial |rfl |exact .inl rfl |exact .inr rfl |exact id |exact(fun h=>Bool.noConfusion h)|refine And.intro ?_ ?_)
    exact yC 4
end Go.Proofs.YtmhapcbjjpadnaaGreat
