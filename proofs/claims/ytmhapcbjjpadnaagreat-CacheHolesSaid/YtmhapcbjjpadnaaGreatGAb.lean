/- Caches. -/
import Derived.Test.YtmhapcbjjpadnaaGreatG8b
import Derived.Test.YtmhapcbjjpadnaaGreatG7b
set_option linter.all false
set_option maxRecDepth 40000
open Bool renaming cond_false_right→zA,cond_true_left→zD,not_eq_false'→zE,not_eq_true'→zF,not_not→zG,and_eq_true→zS
open Int renaming toNat_natCast→zC,natCast_mul→zO
open List renaming getD_eq_getElem?_getD→zH,length_append→zK,cons_ne_nil→zM,getElem?_eq_getElem→zQ,length_cons→zT,append_nil→zV,length_filter_le→zW,append_assoc→zY,not_mem_nil→yA,getElem_mem→yC
open Nat renaming mul_le_mul_right→zI,add_assoc→zJ,zero_le→zL,pow_le_pow_right→zN,zero_mul→zP,zero_add→zU,succ_mul→zX,add_zero→zZ,le_refl→yD
open Option renaming getD_some→yB
namespace Go.Proofs.YtmhapcbjjpadnaaGreat
open Go Go.Sk Go.RowKit
abbrev cM:=Nat->Int×Nat
structure bH(E:cM):Prop where
 small:∀i,(E i).2<8
 none:∀i,(E i).1<=0->(E i).2=0
def fQ(E:cM)(at_:Nat):Nat->Bool
 |0=>true
 |n+1=>fQ E at_ n&&(E (at_+n)).1==0
def lI(E:cM)(at_:Nat):Nat->Nat
 |0=>0
 |n+1=>lI E at_ n ||| (E (at_+n)).2
theorem iA {E:cM} {a:Nat} :∀ {n:Nat},fQ E a n=true↔∀i,i<n->(E (a+i)).1=0
 |0=>by simp [fQ]
 |n+1=>by
  simp only [fQ,zS,iA (n:=n),beq_iff_eq]
  refine⟨λh i hi=>?_,λh=>⟨λi hi=>h i (by omega),h n (by omega)⟩⟩
  by_cases e:i=n
  ·subst e;exact h.2
  ·exact h.1 i (by omega)
theorem aI6 {E:cM} {a m:Nat} :∀ {n:Nat},fQ E a (m+n)=(fQ E a m&&fQ E (a+m) n)
 |0=>by simp [fQ]
 |n+1=>by
  rw [<-zJ]
  simp only [fQ]
  rw [aI6 (n:=n),zJ,Bool.and_assoc]
theorem aPH {E:cM} {a m:Nat} :∀ {n:Nat},lI E a (m+n)=lI E a m ||| lI E (a+m) n
 |0=>by simp [lI]
 |n+1=>by
  rw [<-zJ]
  simp only [lI]
  rw [aPH (n:=n),zJ,Nat.or_assoc]
theorem qO {E:cM} (h:bH E) {a:Nat} :∀ {n:Nat},lI E a n<8
 |0=>Nat.zero_lt_succ _
 |n+1=>Nat.or_lt_two_pow (n:=3) (qO h (n:=n)) (h.small _)
theorem aVI {E:cM} (h:bH E) {a:Nat} :∀ {n:Nat},fQ E a n=true->lI E a n=0
 |0,_=>rfl
 |n+1,hn=>by
  simp only [fQ,zS,beq_iff_eq] at hn
  rw [lI,aVI h hn.1,h.none _ (by omega)];rfl
def mt:List V:= [bR,.int .i64 0,.int .i64 0]
def sub(E:cM):Nat->Nat->List V
 |0,a=> [bR,.int .i64 (E a).1,.int .i64 ((E a).2:Int)]
 |h+1,a=>bif fQ E a (4^(h+1)) then mt else
   [.lst 3 false [sub E h a,sub E h (a+4^h),sub E h (a+2*4^h),sub E h (a+3*4^h)],.int .i64 0,.int .i64 (lI E a (4^(h+1)):Nat)]
def kids(E:cM)(h a:Nat):List (List V):= [sub E h a,sub E h (a+4^h),sub E h (a+2*4^h),sub E h (a+3*4^h)]
theorem dZ {E:cM} (hE:bH E):∀ {h a:Nat},fQ E a (4^h)=true->sub E h a=mt
 |0,a,hn=>by
  have h0:(E a).1=0:=by simpa [fQ] using hn
  rw [sub,h0,hE.none a (by omega)];rfl
 |h+1,a,hn=>by rw [sub,hn];rfl
theorem gT {E:cM} {h a:Nat} (hn:fQ E a (4^(h+1))=false):sub E (h+1) a=[.lst 3 false (kids E h a),.int .i64 0,.int .i64 (lI E a (4^(h+1)):Nat)]:=by rw [sub,hn];rfl
theorem eN(E:cM)(h a i:Nat)(hi:i<4):(kids E h a).getD i []=sub E h (a+i*4^h):=by
 match i,hi with
 |0,_=>simp [kids]
 |1,_=>simp [kids]
 |2,_=>rfl
 |3,_=>rfl
theorem aB3:aM Tryz.prog 340 [] [.agg mt] (.bool true) []:=by
 refine aF (ob0:= []) [] Tryz.func340 rfl rfl rfl rfl ?_
 refine Wk ?_
 try subst hk
 exact Lf
theorem aEN(v m:Int)(hv:v≠0):aM Tryz.prog 340 [] [.agg [bR,.int .i64 v,.int .i64 m]] (.bool false) []:=by
 have hv:(v==0)=false:=by simpa using hv
 refine aF (ob0:= []) [] Tryz.func340 rfl rfl rfl rfl ?_
 refine Wk ?_
 rw [hv]
 refine Wk ?_
 try subst hk
 exact Lf
theorem aEM(ks:List (List V))(v m:Int)(hk:ks.length=4):aM Tryz.prog 340 [] [.agg [.lst 3 false ks,.int .i64 v,.int .i64 m]] (.bool false) []:=by
 refine aF (ob0:= []) [] Tryz.func340 rfl rfl rfl rfl ?_
 refine Wk ?_
 rw [hk]
 refine Wk ?_
 try subst hk
 exact Lf
theorem bJ1 {E:cM} (hE:bH E)(h a:Nat):aM Tryz.prog 340 [] [.agg (sub E h a)] (.bool (fQ E a (4^h))) []:=by
 cases hn:fQ E a (4^h) with
 |true=>rw [dZ hE hn];exact aB3
 |false=>
  cases h with
  |zero=>exact aEN _ _ (by simpa [fQ] using hn)
  |succ h=>rw [gT hn];exact aEM _ _ _ rfl
theorem aL0(h:Nat)(hh:h<=4):aM Tryz.prog 341 [] [.int .i64 (h:Int)] (.int .i64 ((4^h:Nat):Int)) []:=by
 match h,hh with
 |0,_=>exact run_eq E1 40 (by kernel_rfl)
 |1,_=>exact run_eq E1 40 (by kernel_rfl)
 |2,_=>exact run_eq E1 40 (by kernel_rfl)
 |3,_=>exact run_eq E1 40 (by kernel_rfl)
 |4,_=>exact run_eq E1 40 (by kernel_rfl)
def htE(i:Nat):Nat:=bif Nat.beq i 0 then 0 else bif Nat.blt i 4 then 1 else 2
theorem bBY(i:Nat)(hi:i<16):aM Tryz.prog 295 [] [.int .i64 (i:Int)] (.int .i64 (htE i:Int)) []:=by
 match i,hi with
 |0,_=>exact run_eq E1 40 (by kernel_rfl)
 |1,_=>exact run_eq E1 40 (by kernel_rfl)
 |2,_=>exact run_eq E1 40 (by kernel_rfl)
 |3,_=>exact run_eq E1 40 (by kernel_rfl)
 |4,_=>exact run_eq E1 40 (by kernel_rfl)
 |5,_=>exact run_eq E1 40 (by kernel_rfl)
 |6,_=>exact run_eq E1 40 (by kernel_rfl)
 |7,_=>exact run_eq E1 40 (by kernel_rfl)
 |8,_=>exact run_eq E1 40 (by kernel_rfl)
 |9,_=>exact run_eq E1 40 (by kernel_rfl)
 |10,_=>exact run_eq E1 40 (by kernel_rfl)
 |11,_=>exact run_eq E1 40 (by kernel_rfl)
 |12,_=>exact run_eq E1 40 (by kernel_rfl)
 |13,_=>exact run_eq E1 40 (by kernel_rfl)
 |14,_=>exact run_eq E1 40 (by kernel_rfl)
 |15,_=>exact run_eq E1 40 (by kernel_rfl)
 |n+16,hh=>exact absurd hh (by omega)
end Go.Proofs.YtmhapcbjjpadnaaGreat
namespace Go.Proofs.YtmhapcbjjpadnaaGreat
open Go Go.Sk Go.RowKit
theorem cR {x y:Nat} (hx:x<8)(hy:y<8):fH .or .i64 (x:Int) (y:Int)=((x ||| y:Nat):Int):=by
 have key:∀a:Fin 8,∀b:Fin 8,fH .or .i64 (a.val:Int) (b.val:Int)=((a.val ||| b.val:Nat):Int):=by decide
 exact key ⟨x,hx⟩ ⟨y,hy⟩
theorem dN(h:Nat):4^(h+1)=4*4^h:=by rw [Nat.pow_succ,Nat.mul_comm]
theorem iG {E:cM} (hE:bH E)(h a:Nat):∃k n xs v,sub E h a=[.lst k n xs,.int .i64 v,.int .i64 (lI E a (4^h):Nat)]:=by
 cases hn:fQ E a (4^h) with
 |true=>rw [dZ hE hn,aVI hE hn];exact⟨_,_,_,_,rfl⟩
 |false=>
  cases h with
  |zero=>exact⟨0,true,[],(E a).1,by rw [sub];simp [lI,bR]⟩
  |succ h=>rw [gT hn];exact⟨_,_,_,_,rfl⟩
theorem vV(E:cM)(a q i:Nat):lI E a (i*q)||| lI E (a+i*q) q=lI E a ((i+1)*q):=by rw [zX,aPH]
theorem aEG(E:cM)(a q i:Nat):(bif !fQ E a (i*q) then true else !fQ E (a+i*q) q)= !fQ E a ((i+1)*q):=by
 rw [zX,aI6];cases fQ E a (i*q)<;> simp
theorem bIK {E:cM} (hE:bH E):∀(h a:Nat),h<=4->aM Tryz.prog 294 [] [.agg (sub E h a),.int .i64 (h:Int)] (.bool true) []:=by
 intro h
 induction h with
 |zero=>
  intro a _
  cases hn:fQ E a (4^0) with
  |true=>
   rw [dZ hE hn]
   refine aF (ob0:= []) [] Tryz.func294 rfl rfl rfl rfl ?_
   refine cC aB3 ?_
   try subst hk
   exact Lf
  |false=>
   have hv:(E a).1≠0:=by simpa [fQ] using hn
   have hm:=hE.small a
   have hz:=hE.none a
   rw [sub]
   generalize(E a).1=v at hv hz
   generalize(E a).2=m at hm hz
   refine aF (ob0:= []) [] Tryz.func294 rfl rfl rfl rfl ?_
   refine cC (aEN v m hv) ?_
   rw [show(v != 0)=true by simpa using hv,show decide ((0:Int)<=(m:Int))=true from decide_eq_true (by omega),show decide ((m:Int)<=7)=true from decide_eq_true (by omega),
    show(bif decide (0<v) then true else(m:Int)==0)=true by
     by_cases h0:0<v
     ·rw [decide_eq_true h0];rfl
     ·rw [hz (by omega)];cases decide (0<v)<;> rfl]
   try subst hk
   exact Lf
 |succ h ih=>
  intro a hh
  cases hn:fQ E a (4^(h+1)) with
  |true=>
   rw [dZ hE hn]
   refine aF (ob0:= []) [] Tryz.func294 rfl rfl rfl rfl ?_
   refine cC aB3 ?_
   try subst hk
   exact Lf
  |false=>
   rw [gT hn]
   generalize hM:((lI E a (4^(h+1)):Nat):Int)=M
   refine aF (ob0:= []) [] Tryz.func294 rfl rfl rfl rfl ?_
   refine cC (aEM (kids E h a) 0 M rfl) ?_
   refine⟨Nat,λi=>i<=4,λi=>⟨[(1,⟨[],true,.int .i64 ((h+1:Nat):Int)⟩),(2,⟨[],true,.ptr 0 0 0⟩),(5,⟨[],true,.int .i64 ((lI E a (i*4^h):Nat):Int)⟩),(6,⟨[],true,.bool (!fQ E a (i*4^h))⟩),(7,⟨[],true,.int .i64 (i:Int)⟩)],[(0,.box [.lst 3 false (kids E h a),.int .i64 0,.int .i64 M])],1⟩,λi=>4-i,⟨0,zL _,?_⟩,λi hI=>?_⟩
   ·refine bX [some ?k74_0] rfl rfl ?h3_74 ?h4_74 ?h5_74 ?h6_74 ?h7_74
    case' h7_74=>repeat' (first |exact trivial |rfl |exact .inl rfl |exact .inr rfl |exact id |exact(λh=>Bool.noConfusion h)|refine And.intro ?_ ?_)
    case' h4_74=>rfl
    case' h6_74=>rfl
    case' h3_74=>repeat' (first |exact trivial |rfl |exact .inl rfl |exact .inr rfl |exact id |exact(λh=>Bool.noConfusion h)|refine And.intro ?_ ?_)
    case' h5_74=>repeat' (first |exact trivial |rfl |exact .inl rfl |exact .inr rfl |exact id |exact(λh=>Bool.noConfusion h)|refine And.intro ?_ ?_)
    all_goals first | (rw [zP];rfl)|skip
   dsimp only at hI⊢
   refine Wk ?_
   refine aC (λb1=>?_) (λb1=>?_)<;> try simp only [zD,zA,zF,zE,zG] at b1
   ·have b1:i<4:=by simp at b1;omega
    obtain⟨k0,k1,k2,k3,e⟩:=iG hE h (a+i*4^h)
    have ih':=ih (a+i*4^h) (by omega)
    have k340:=bJ1 hE h (a+i*4^h)
    have hg:=eN E h a i b1
    rw [e] at ih' k340 hg
    refine Wk ?_
    first |refine aB (⟨rfl,by omega,by show(i:Int)<4;omega⟩) ?_ |refine aH (λ_=>⟨rfl,by omega,by show(i:Int)<4;omega⟩) ?_ |refine⟨λ_=>⟨rfl,by omega,by show(i:Int)<4;omega⟩,?_⟩
    rw [zC,hg]
    refine Wk ?_
    rw [aR (n:=((h+1:Nat):Int)-1) (by omega) (by omega),show(((h+1:Nat):Int)-1)=(h:Int) by omega]
    refine cC ih' ?_
    first |refine aB (⟨rfl,by omega,by show(i:Int)<4;omega⟩) ?_ |refine aH (λ_=>⟨rfl,by omega,by show(i:Int)<4;omega⟩) ?_ |refine⟨λ_=>⟨rfl,by omega,by show(i:Int)<4;omega⟩,?_⟩
    rw [zC,hg]
    refine Wk ?_
    rw [cR (qO hE) (qO hE),vV]
    refine Wk ?_
    first |refine aB (⟨rfl,by omega,by show(i:Int)<4;omega⟩) ?_ |refine aH (λ_=>⟨rfl,by omega,by show(i:Int)<4;omega⟩) ?_ |refine⟨λ_=>⟨rfl,by omega,by show(i:Int)<4;omega⟩,?_⟩
    rw [zC,hg]
    refine cC k340 ?_
    rw [aEG,cV (by omega)]
    refine⟨i+1,by show i+1<=4;omega,?_,by show 4- (i+1)<4-i;omega⟩
    exact Vw [some 0]
   have b1:i=4:=by simp at b1;omega
   subst b1
   rw [<-dN,hn]
   subst hM
   refine Wk ?_
   rw [beq_self_eq_true]
   try subst hk
   exact Lf
end Go.Proofs.YtmhapcbjjpadnaaGreat
namespace Go.Proofs.YtmhapcbjjpadnaaGreat
open Go Go.Sk Go.RowKit
def bQ(E:cM)(a:Nat):Nat->List Nat
 |0=> []
 |n+1=>bQ E a n++(bif (E (a+n)).1==0 then [] else [a+n])
def oL(E:cM)(i:Nat):List V:= [.int .i64 (i:Int),.int .i64 (E i).1,.int .i64 ((E i).2:Int)]
def bO(E:cM)(l:List Nat):List (List V):=l.map (oL E)
theorem aL(E:cM)(l:List Nat):(bO E l).length=l.length:=List.length_map _
theorem aKE {E:cM} {a m:Nat} :∀ {n:Nat},bQ E a (m+n)=bQ E a m++bQ E (a+m) n
 |0=>by simp [bQ]
 |n+1=>by
  rw [<-zJ]
  simp only [bQ]
  rw [aKE (n:=n),zJ,zY]
theorem tC {E:cM} {a:Nat} :∀ {n:Nat},fQ E a n=true->bQ E a n=[]
 |0,_=>rfl
 |n+1,h=>by
  simp only [fQ,zS] at h
  rw [bQ,tC h.1,h.2];rfl
theorem kU(E:cM)(a:Nat):∀n,(bQ E a n).length<=n
 |0=>yD 0
 |n+1=>by
  have :=kU E a n
  rw [bQ,zK]
  cases((E (a+n)).1==0)<;> simp <;> omega
theorem aAT(E:cM)(a q i:Nat):bQ E a ((i+1)*q)=bQ E a (i*q)++bQ E (a+i*q) q:=by rw [zX,aKE]
theorem aD5 {h:Nat} (hh:h<=4):4^h<=256:=zN (by decide) hh
theorem bBX {E:cM} (hE:bH E):∀(h a:Nat),h<=4->a+4^h<=256->∀l:List Nat,l.length+4^h<=100000->
 FnM Tryz.prog 293 [.row 3 (bO E l)] [.sl 0 0 l.length,.agg (sub E h a),.int .i64 (h:Int),.int .i64 (a:Int)] (.sl 0 0 (l++bQ E a (4^h)).length) [.row 3 (bO E (l++bQ E a (4^h)))]:=by
 intro h
 induction h with
 |zero=>
  intro a _ ha l hl
  cases hn:fQ E a (4^0) with
  |true=>
   rw [dZ hE hn,tC hn,zV]
   refine aCX (ob0:= [.row 3 (bO E l)]) [] Tryz.func293 rfl rfl rfl rfl ?_
   refine cC aB3 ?_
   try subst hk
   exact⟨[some 0],Cl,rfl,Cl,rfl,Cl⟩
  |false=>
   have hv:(E a).1≠0:=by simpa [fQ] using hn
   have hi:bQ E a (4^0)=[a]:=by
    show []++(bif (E (a+0)).1==0 then [] else [a+0])=[a]
    rw [zZ,show((E a).1==0)=false by simpa using hv];rfl
   rw [sub,hi]
   refine aCX (ob0:= [.row 3 (bO E l)]) [] Tryz.func293 rfl rfl rfl rfl ?_
   refine cC (aEN _ _ hv) ?_
   refine aB (aL E l).symm (bG (by rw [aL];show((l.length+1:Nat):Int)<=_;omega) (by rw [aL];show(l.length+1)*24<=_;omega) ?_)
   refine Wk ?_
   try subst hk
   refine⟨[some 3],?_,rfl,?_,rfl,?_⟩
   all_goals repeat' (first |exact trivial |rfl |exact .inl rfl |exact .inr rfl |exact id |exact(λh=>Bool.noConfusion h)|refine And.intro ?_ ?_)
   ·show bO E l++ [oL E a]=_
    simp [bO]
   ·show(bO E l).length+1=_
    rw [aL,zK];rfl
 |succ h ih=>
  intro a hh ha l hl
  cases hn:fQ E a (4^(h+1)) with
  |true=>
   rw [dZ hE hn,tC hn,zV]
   refine aCX (ob0:= [.row 3 (bO E l)]) [] Tryz.func293 rfl rfl rfl rfl ?_
   refine cC aB3 ?_
   try subst hk
   exact⟨[some 0],Cl,rfl,Cl,rfl,Cl⟩
  |false=>
   rw [gT hn]
   generalize((lI E a (4^(h+1)):Nat):Int)=M
   have hp:=aD5 (h:=h+1) hh
   have hp':=dN h
   refine aCX (ob0:= [.row 3 (bO E l)]) [] Tryz.func293 rfl rfl rfl rfl ?_
   refine cC (aEM (kids E h a) 0 M rfl) ?_
   refine⟨Nat,λi=>i<=4,λi=>⟨[(0,⟨[],true,.sl 0 0 (l++bQ E a (i*4^h)).length⟩),(2,⟨[],true,.int .i64 ((h+1:Nat):Int)⟩),(3,⟨[],true,.int .i64 (a:Int)⟩),(5,⟨[],true,.ptr 1 0 0⟩),(9,⟨[],true,.int .i64 (i:Int)⟩)],[(0,.row 3 (bO E (l++bQ E a (i*4^h)))),(1,.box [.lst 3 false (kids E h a),.int .i64 0,.int .i64 M])],2⟩,λi=>4-i,⟨0,zL _,?_⟩,λi hI=>?_⟩
   ·dsimp only
    rw [zP,bQ,zV]
    exact Vw [some 0,some 1]
   dsimp only at hI⊢
   refine Wk ?_
   refine aC (λb1=>?_) (λb1=>?_)<;> try simp only [zD,zA,zF,zE,zG] at b1
   ·have b1:i<4:=by simp at b1;omega
    have hiq:i*4^h<=3*4^h:=zI _ (by omega)
    obtain⟨k0,k1,k2,k3,e⟩:=iG hE h (a+i*4^h)
    have hlen:=kU E a (i*4^h)
    have ih':=ih (a+i*4^h) (by omega) (by omega) (l++bQ E a (i*4^h)) (by rw [zK];omega)
    have hg:=eN E h a i b1
    rw [e] at ih' hg
    refine Wk ?_
    first |refine aB (⟨rfl,by omega,by show(i:Int)<4;omega⟩) ?_ |refine aH (λ_=>⟨rfl,by omega,by show(i:Int)<4;omega⟩) ?_ |refine⟨λ_=>⟨rfl,by omega,by show(i:Int)<4;omega⟩,?_⟩
    rw [zC,hg]
    refine Wk ?_
    rw [aR (n:=((h+1:Nat):Int)-1) (by omega) (by omega),show(((h+1:Nat):Int)-1)=(h:Int) by omega]
    refine cC (aL0 h (by omega)) ?_
    rw [show(i:Int)*((4^h:Nat):Int)=((i*4^h:Nat):Int) from(zO _ _).symm,aR (n:=((i*4^h:Nat):Int)) (by omega) (by omega)]
    refine Wk ?_
    rw [aR (n:=(a:Int)+((i*4^h:Nat):Int)) (by omega) (by omega),show(a:Int)+((i*4^h:Nat):Int)=((a+i*4^h:Nat):Int) from(Int.natCast_add _ _).symm]
    refine Wk ?_
    refine .mov ⟨λ_=>⟨[0],_,_,_,ih',⟨rfl,trivial⟩,rfl,rfl,?_⟩,(by intro h;cases h)⟩
    refine Wk ?_
    rw [cV (by omega)]
    refine⟨i+1,by show i+1<=4;omega,?_,by show 4- (i+1)<4-i;omega⟩
    dsimp only
    rw [aAT,<-zY]
    exact Vw [some 9456,some 1]
   have b1:i=4:=by simp at b1;omega
   subst b1
   rw [<-hp']
   refine Wk ?_
   try subst hk
   exact⟨[some 0],Cl,rfl,Cl,rfl,Cl⟩
def aRF(E:cM)(l:List Nat):V:=match l with
 | []=>bR
 |i::r=>.lst 3 false (bO E (i::r))
theorem aOW {E:cM} {a:Nat} :∀ {n:Nat},fQ E a n=false->bQ E a n≠ []
 |0,h=>by cases h
 |n+1,h=>by
  rw [bQ]
  cases hv:((E (a+n)).1==0) with
  |false=>simp
  |true=>
   rw [fQ,hv,Bool.and_true] at h
   simpa using aOW h
theorem tE {E:cM} {l:List Nat} (h:l≠ []):aRF E l=.lst 3 false (bO E l):=by
 cases l with
 |nil=>exact absurd rfl h
 |cons i r=>rfl
theorem aVA {E:cM} (hE:bH E)(h:Nat)(hh:h<=4):aM Tryz.prog 293 [] [bR,.agg (sub E h 0),.int .i64 (h:Int),.int .i64 0] (aRF E (bQ E 0 (4^h))) []:=by
 cases hn:fQ E 0 (4^h) with
 |true=>
  rw [dZ hE hn,tC hn]
  refine aF (ob0:= []) [] Tryz.func293 rfl rfl rfl rfl ?_
  refine cC aB3 ?_
  try subst hk
  exact Lf
 |false=>
  rw [tE (aOW hn)]
  cases h with
  |zero=>
   have hv:(E 0).1≠0:=by simpa [fQ] using hn
   have hi:bQ E 0 (4^0)=[0]:=by
    show []++(bif (E (0+0)).1==0 then [] else [0+0])=[0]
    rw [zZ,show((E 0).1==0)=false by simpa using hv];rfl
   rw [sub,hi]
   refine aF (ob0:= []) [] Tryz.func293 rfl rfl rfl rfl ?_
   refine cC (aEN _ _ hv) ?_
   refine⟨[],trivial,rfl,trivial,rfl,?_⟩
   try subst hk
   repeat' (first |exact trivial |rfl |exact .inl rfl |exact .inr rfl |exact id |exact(λh=>Bool.noConfusion h)|refine And.intro ?_ ?_)
   all_goals first |rfl |exact yD 1
  |succ h=>
   rw [gT hn]
   generalize((lI E 0 (4^(h+1)):Nat):Int)=M
   have hp:=aD5 (h:=h+1) hh
   have hp':=dN h
   refine aF (ob0:= []) [] Tryz.func293 rfl rfl rfl rfl ?_
   refine cC (aEM (kids E h 0) 0 M rfl) ?_
   refine⟨Nat,λi=>i<=4,λi=>⟨[(0,⟨[],true,.sl 0 0 (bQ E 0 (i*4^h)).length⟩),(2,⟨[],true,.int .i64 ((h+1:Nat):Int)⟩),(3,⟨[],true,.int .i64 0⟩),(5,⟨[],true,.ptr 1 0 0⟩),(9,⟨[],true,.int .i64 (i:Int)⟩)],[(0,.row 3 (bO E (bQ E 0 (i*4^h)))),(1,.box [.lst 3 false (kids E h 0),.int .i64 0,.int .i64 M])],2⟩,λi=>4-i,⟨0,zL _,?_⟩,λi hI=>?_⟩
   ·dsimp only
    rw [zP,bQ]
    exact Vw [none,some 0]
   dsimp only at hI⊢
   refine Wk ?_
   refine aC (λb1=>?_) (λb1=>?_)<;> try simp only [zD,zA,zF,zE,zG] at b1
   ·have b1:i<4:=by simp at b1;omega
    have hiq:i*4^h<=3*4^h:=zI _ (by omega)
    have hlen:=kU E 0 (i*4^h)
    have hg:=eN E h 0 i b1
    rw [zU] at hg
    obtain⟨k0,k1,k2,k3,e⟩:=iG hE h (i*4^h)
    have ih':=bBX hE h (i*4^h) (by omega) (by omega) (bQ E 0 (i*4^h)) (by omega)
    rw [e] at ih' hg
    refine Wk ?_
    first |refine aB (⟨rfl,by omega,by show(i:Int)<4;omega⟩) ?_ |refine aH (λ_=>⟨rfl,by omega,by show(i:Int)<4;omega⟩) ?_ |refine⟨λ_=>⟨rfl,by omega,by show(i:Int)<4;omega⟩,?_⟩
    rw [zC,hg]
    refine Wk ?_
    rw [aR (n:=((h+1:Nat):Int)-1) (by omega) (by omega),show(((h+1:Nat):Int)-1)=(h:Int) by omega]
    refine cC (aL0 h (by omega)) ?_
    rw [show(i:Int)*((4^h:Nat):Int)=((i*4^h:Nat):Int) from(zO _ _).symm,aR (n:=((i*4^h:Nat):Int)) (by omega) (by omega)]
    refine Wk ?_
    rw [aR (n:=(0:Int)+((i*4^h:Nat):Int)) (by omega) (by omega),Int.zero_add]
    refine Wk ?_
    refine .mov ⟨λ_=>⟨[0],_,_,_,ih',⟨rfl,trivial⟩,rfl,rfl,?_⟩,(by intro h;cases h)⟩
    refine Wk ?_
    rw [cV (by omega)]
    refine⟨i+1,by show i+1<=4;omega,?_,by show 4- (i+1)<4-i;omega⟩
    dsimp only
    rw [aAT,zU (i*4^h)]
    exact Vw [some 9456,some 1]
   have b1:i=4:=by simp at b1;omega
   subst b1
   rw [<-hp']
   refine Wk ?_
   refine⟨[],trivial,rfl,trivial,rfl,?_⟩
   try subst hk
   repeat' (first |exact trivial |rfl |exact .inl rfl |exact .inr rfl |exact id |exact(λh=>Bool.noConfusion h)|refine And.intro ?_ ?_)
   ·rw [aL];omega
   ·exact cA rfl (aL _ _)
end Go.Proofs.YtmhapcbjjpadnaaGreat
namespace Go.Proofs.YtmhapcbjjpadnaaGreat
open Go Go.Sk Go.RowKit
def aE8(l:List Nat):Nat:=l.getD (l.length-1) 0
def aWB(l:List Nat)(h:Nat):Prop:=match l with
 | []=>h=0
 |l=>htE (aE8 l)=h
theorem kC(E:cM)(l:List Nat)(k:Nat)(h:k<l.length):(bO E l).getD k []=oL E (l.getD k 0):=by
 simp [bO,zH,h]
theorem jK {E:cM} {a i:Nat} :∀ {n:Nat},i∈bQ E a n↔a<=i/\i<a+n/\(E i).1≠0
 |0=>by simp [bQ];omega
 |n+1=>by
  rw [bQ,List.mem_append,jK (n:=n)]
  cases hv:((E (a+n)).1==0) with
  |true=>
   have hv:(E (a+n)).1=0:=by simpa using hv
   simp only [cond_true,yA,or_false]
   refine⟨λh=>⟨h.1,by omega,h.2.2⟩,λh=>⟨h.1,?_,h.2.2⟩⟩
   by_cases e:i=a+n
   ·subst e;exact absurd hv h.2.2
   ·omega
  |false=>
   have hv:(E (a+n)).1≠0:=by simpa using hv
   simp only [cond_false,List.mem_singleton]
   first |refine aC (λh=>?_) (λh=>?_)|refine⟨λh=>?_,λh=>?_⟩
   ·rcases h with h |rfl
    ·exact⟨h.1,by omega,h.2.2⟩
    ·exact⟨by omega,by omega,hv⟩
   ·by_cases e:i=a+n
    ·exact .inr e
    ·exact .inl ⟨h.1,by omega,h.2.2⟩
theorem aUZ {E:cM} (hE:bH E)(h:Nat)(hh:h<=2)(ht:aWB (bQ E 0 (4^h)) h):aM Tryz.prog 218 [] [.agg (.int .i64 (h:Int)::sub E h 0)] (.bool true) []:=by
 have hp:4^h<=16:=zN (n:=4) (by decide) hh
 have k294:=bIK hE h 0 (by omega)
 have k293:=aVA hE h (by omega)
 obtain⟨k0,k1,k2,k3,e⟩:=iG hE h 0
 have hlen:=kU E 0 (4^h)
 have hmem:∀i∈bQ E 0 (4^h),i<16:=λi hi=>by have :=(jK.1 hi).2.1;omega
 rw [e] at k294 k293⊢
 generalize bQ E 0 (4^h)=l at ht k293 hlen hmem
 refine aF (ob0:= []) [] Tryz.func218 rfl rfl rfl rfl ?_
 refine Wk2 k294 k293 ?_
 refine aC (λc1=>?_) (λc1=>?_)<;> try simp only [zD,zA,zF,zE,zG] at c1
 ·simp at c1;omega
 clear c1
 refine cC k293 ?_
 cases l with
 |nil=>
  obtain rfl:h=0:=ht
  refine Wk ?_
  try subst hk
  exact Lf
 |cons x r=>
  have hl0:0< (x::r).length:=Nat.zero_lt_succ _
  have hla:aE8 (x::r)<16:=hmem _ (by unfold aE8;simp only [zH,show(x::r).length-1< (x::r).length by omega,zQ,yB];exact yC _)
  have ht:htE (aE8 (x::r))=h:=ht
  have k295:=bBY _ hla
  rw [ht] at k295
  rw [tE (zM x r)]
  unfold aE8 at k295
  generalize x::r=l at hl0 k295 hlen⊢
  refine Wk ?_
  rw [aL,show((l.length:Int)==0)=false from beq_eq_false_iff_ne.2 (by omega)]
  refine Wk ?_
  rw [aL,aR (n:=(l.length:Int)-1) (by omega) (by omega),show(l.length:Int)-1=((l.length-1:Nat):Int) by omega]
  first |refine aB (⟨rfl,by omega,by omega⟩) ?_ |refine aH (λ_=>⟨rfl,by omega,by omega⟩) ?_ |refine⟨λ_=>⟨rfl,by omega,by omega⟩,?_⟩
  rw [zC,kC E l _ (by omega)]
  refine cC k295 ?_
  rw [beq_self_eq_true]
  try subst hk
  exact Lf
def lF(i:Int):List Nat->Nat->Int
 | [],_=> -1
 |x::r,k=>bif (x:Int)==i then(k:Int) else lF i r (k+1)
theorem aET {i:Int} :∀ {l:List Nat} {k:Nat},(0<=lF i l k->(k:Int)<=lF i l k/\lF i l k<k+l.length/\((l.getD ((lF i l k).toNat-k) 0:Nat):Int)=i)/\(lF i l k<0->∀x∈l,(x:Int)≠i)
 | [],k=>⟨λh=>by simp [lF] at h,λ_ x hx=>absurd hx yA⟩
 |y::r,k=>by
  rw [lF]
  cases hy:((y:Int)==i) with
  |true=>
   have hy:(y:Int)=i:=by simpa using hy
   refine⟨λ_=>⟨Int.le_refl _,by simp;omega,by simpa using hy⟩,λh=>?_⟩
   simp only [cond_true] at h;omega
  |false=>
   have hy:(y:Int)≠i:=by simpa using hy
   obtain⟨h1,h2⟩:=aET (i:=i) (l:=r) (k:=k+1)
   simp only [cond_false]
   refine⟨λh=>?_,λh x hx=>?_⟩
   ·obtain⟨a1,a2,a3⟩:=h1 h
    first |refine bG (by omega) (by simp only [zT];omega) ?_ |refine aB ⟨by omega,by simp only [zT];omega⟩ ?_ |refine⟨by omega,by simp only [zT];omega,?_⟩
    rw [show(lF i r (k+1)).toNat-k=((lF i r (k+1)).toNat- (k+1))+1 by omega]
    exact a3
   ·rcases List.mem_cons.1 hx with rfl |hx
    ·exact hy
    ·exact h2 h x hx
theorem bBF(E:cM)(l:List Nat)(i:Int)(hl:l.length<=100000):aM Tryz.prog 217 [] [aRF E l,.int .i64 i] (.int .i64 (lF i l 0)) []:=by
 cases l with
 |nil=>
  refine aF (ob0:= []) [] Tryz.func217 rfl rfl rfl rfl ?_
  refine Wk ?_
  refine⟨Unit,λ_=>True,λ_=>⟨[(0,⟨[],true,bR⟩),(1,⟨[],true,.int .i64 i⟩),(5,⟨[],true,.int .i64 0⟩)],[],0⟩,λ_=>0,⟨(),trivial,?_⟩,λ_ _=>?_⟩
  ·exact Vw []
  refine Wk ?_
  try subst hk
  exact Lf
 |cons x r=>
  rw [tE (zM x r)]
  generalize x::r=l at hl⊢
  generalize hk:lF i l 0=q
  refine aF (ob0:= []) [] Tryz.func217 rfl rfl rfl rfl ?_
  refine Wk ?_
  refine⟨Nat,λk=>k<=l.length/\lF i (l.drop k) k=q,λk=>⟨[(0,⟨[],true,.lst 3 false (bO E l)⟩),(1,⟨[],true,.int .i64 i⟩),(5,⟨[],true,.int .i64 (k:Int)⟩)],[],0⟩,λk=>l.length-k,⟨0,⟨zL _,hk⟩,?_⟩,λk hI=>?_⟩
  ·exact Vw []
  obtain⟨hI1,hI2⟩:=hI
  dsimp only at hI1 hI2⊢
  refine Wk ?_
  rw [aL]
  refine aC (λb1=>?_) (λb1=>?_)<;> try simp only [zD,zA,zF,zE,zG] at b1
  ·have b1:k<l.length:=by simp at b1;omega
   have hst:lF i (l.drop k) k=bif ((l.getD k 0:Nat):Int)==i then(k:Int) else lF i (l.drop (k+1)) (k+1):=by
    rw [List.drop_eq_getElem_cons b1,lF,show l.getD k 0=l[k] by simp [zH,b1]]
   rw [hst] at hI2
   refine Wk ?_
   first |refine aB (⟨rfl,by omega,by rw [aL];omega⟩) ?_ |refine aH (λ_=>⟨rfl,by omega,by rw [aL];omega⟩) ?_ |refine⟨λ_=>⟨rfl,by omega,by rw [aL];omega⟩,?_⟩
   rw [zC,kC E l k b1]
   refine Wk ?_
   refine aC (λb2=>?_) (λb2=>?_)<;> try simp only [zD,zA,zF,zE,zG] at b2
   ·rw [b2,cond_true] at hI2
    subst hI2
    refine Wk ?_
    try subst hk
    exact Lf
   rw [b2,cond_false] at hI2
   refine Wk ?_
   rw [cV (by omega)]
   refine⟨k+1,⟨by show k+1<=_;omega,hI2⟩,?_,by show l.length- (k+1)<l.length-k;omega⟩
   exact Vw []
  have b1:k=l.length:=by simp at b1;omega
  subst b1
  rw [List.drop_length,lF] at hI2
  subst hI2
  refine Wk ?_
  try subst hk
  exact Lf
theorem bBE {E:cM} (hE:bH E)(h:Nat)(hh:h<=2)(ht:aWB (bQ E 0 (4^h)) h):aM Tryz.prog 216 [] [.agg (.int .i64 (h:Int)::sub E h 0)] (aRF E (bQ E 0 (4^h))) []:=by
 have k218:=aUZ hE h hh ht
 have k293:=aVA hE h (by omega)
 obtain⟨k0,k1,k2,k3,e⟩:=iG hE h 0
 rw [e] at k218 k293⊢
 generalize bQ E 0 (4^h)=l at k293⊢
 cases l with
 |nil=>
  refine aF (ob0:= []) [] Tryz.func216 rfl rfl rfl rfl ?_
  refine Wk2 k218 k293 ?_
  try subst hk
  exact Lf
 |cons x r=>
  rw [tE (zM x r)] at k293⊢
  generalize x::r=l at k293⊢
  refine aF (ob0:= []) [] Tryz.func216 rfl rfl rfl rfl ?_
  refine Wk2 k218 k293 ?_
  try subst hk
  exact Lf
def uW(E:cM)(i:Int):Int:=bif decide (0<=i) then(E i.toNat).1 else 0
theorem bHB {E:cM} (hE:bH E)(h:Nat)(hh:h<=2)(ht:aWB (bQ E 0 (4^h)) h)(hs:∀i,4^h<=i->(E i).1=0)(i:Int):aM Tryz.prog 117 [] [.agg (.int .i64 (h:Int)::sub E h 0),.int .i64 i] (.int .i64 (uW E i)) []:=by
 have hp:4^h<=16:=zN (n:=4) (by decide) hh
 have k216:=bBE hE h hh ht
 have hlen:=kU E 0 (4^h)
 have k217:=bBF E (bQ E 0 (4^h)) i (by omega)
 obtain⟨hg1,hg2⟩:=aET (i:=i) (l:=bQ E 0 (4^h)) (k:=0)
 have hv0:lF i (bQ E 0 (4^h)) 0<0->uW E i=0:=λhn=>by
  unfold uW
  by_cases h0:0<=i
  ·rw [decide_eq_true h0,cond_true]
   by_cases h1:i.toNat<4^h
   ·by_cases h2:(E i.toNat).1=0
    ·exact h2
    ·exact absurd (by omega) (hg2 hn i.toNat (jK.2 ⟨by omega,by omega,h2⟩))
   ·exact hs _ (by omega)
  ·rw [decide_eq_false h0];rfl
 have hv1:0<=lF i (bQ E 0 (4^h)) 0->(E ((bQ E 0 (4^h)).getD (lF i (bQ E 0 (4^h)) 0).toNat 0)).1=uW E i:=λhn=>by
  obtain⟨a1,a2,a3⟩:=hg1 hn
  rw [Nat.sub_zero] at a3
  unfold uW
  rw [decide_eq_true (show 0<=i by omega),cond_true]
  generalize(bQ E 0 (4^h)).getD (lF i (bQ E 0 (4^h)) 0).toNat 0=y at a3
  rw [show i.toNat=y by omega]
 obtain⟨k0,k1,k2,k3,e⟩:=iG hE h 0
 rw [e] at k216⊢
 generalize bQ E 0 (4^h)=l at *
 generalize uW E i=q at *
 clear hg2
 cases l with
 |nil=>
  rw [hv0 (show(-1:Int)<0 by decide)]
  refine aF (ob0:= []) [] Tryz.func117 rfl rfl rfl rfl ?_
  refine Wk2 k216 k217 ?_
  try subst hk
  exact Lf
 |cons x r=>
  rw [tE (zM x r)] at k216 k217
  generalize x::r=l at *
  generalize lF i l 0=p at *
  refine aF (ob0:= []) [] Tryz.func117 rfl rfl rfl rfl ?_
  refine Wk2 k216 k217 ?_
  refine aC (λc1=>?_) (λc1=>?_)<;> try simp only [zD,zA,zF,zE,zG] at c1
  ·have c1:0<=p:=by simpa using c1
   obtain⟨a1,a2,a3⟩:=hg1 c1
   obtain⟨n,rfl⟩:∃n:Nat,p=n:=⟨p.toNat,by omega⟩
   have hv1:=hv1 c1
   rw [zC] at hv1
   refine Wk ?_
   first |refine aB (⟨rfl,by omega,by rw [aL];omega⟩) ?_ |refine aH (λ_=>⟨rfl,by omega,by rw [aL];omega⟩) ?_ |refine⟨λ_=>⟨rfl,by omega,by rw [aL];omega⟩,?_⟩
   rw [zC,kC E l n (by omega)]
   refine Wk ?_
   rw [hv1]
   try subst hk
   exact Lf
  have c1:p<0:=by simpa using c1
  rw [hv0 c1]
  refine Wk ?_
  try subst hk
  exact Lf
end Go.Proofs.YtmhapcbjjpadnaaGreat
namespace Go.Proofs.YtmhapcbjjpadnaaGreat
open Go Go.Sk Go.RowKit
theorem bEP {E:cM} (hE:bH E)(h:Nat)(hh:h<=4)(hn:fQ E 0 (4^h)=false):aM Tryz.prog 293 [] [bR,.agg (sub E h 0),.int .i64 (h:Int),.int .i64 0] (.sl 0 0 (bQ E 0 (4^h)).length) [.row 3 (bO E (bQ E 0 (4^h)))]:=by
 cases h with
 |zero=>
  have hv:(E 0).1≠0:=by simpa [fQ] using hn
  have hi:bQ E 0 (4^0)=[0]:=by
   show []++(bif (E (0+0)).1==0 then [] else [0+0])=[0]
   rw [zZ,show((E 0).1==0)=false by simpa using hv];rfl
  rw [sub,hi]
  refine aF (ob0:= []) [] Tryz.func293 rfl rfl rfl rfl ?_
  refine cC (aEN _ _ hv) ?_
  try subst hk
  exact⟨[some 2],Cl,rfl,Cl,rfl,Cl⟩
 |succ h=>
  rw [gT hn]
  generalize((lI E 0 (4^(h+1)):Nat):Int)=M
  have hp:=aD5 (h:=h+1) hh
  have hp':=dN h
  refine aF (ob0:= []) [] Tryz.func293 rfl rfl rfl rfl ?_
  refine cC (aEM (kids E h 0) 0 M rfl) ?_
  refine⟨Nat,λi=>i<=4,λi=>⟨[(0,⟨[],true,.sl 0 0 (bQ E 0 (i*4^h)).length⟩),(2,⟨[],true,.int .i64 ((h+1:Nat):Int)⟩),(3,⟨[],true,.int .i64 0⟩),(5,⟨[],true,.ptr 1 0 0⟩),(9,⟨[],true,.int .i64 (i:Int)⟩)],[(0,.row 3 (bO E (bQ E 0 (i*4^h)))),(1,.box [.lst 3 false (kids E h 0),.int .i64 0,.int .i64 M])],2⟩,λi=>4-i,⟨0,zL _,?_⟩,λi hI=>?_⟩
  ·dsimp only
   rw [zP,bQ]
   exact Vw [none,some 0]
  dsimp only at hI⊢
  refine Wk ?_
  refine aC (λb1=>?_) (λb1=>?_)<;> try simp only [zD,zA,zF,zE,zG] at b1
  ·have b1:i<4:=by simp at b1;omega
   have hiq:i*4^h<=3*4^h:=zI _ (by omega)
   have hlen:=kU E 0 (i*4^h)
   have hg:=eN E h 0 i b1
   rw [zU] at hg
   obtain⟨k0,k1,k2,k3,e⟩:=iG hE h (i*4^h)
   have ih':=bBX hE h (i*4^h) (by omega) (by omega) (bQ E 0 (i*4^h)) (by omega)
   rw [e] at ih' hg
   refine Wk ?_
   first |refine aB (⟨rfl,by omega,by show(i:Int)<4;omega⟩) ?_ |refine aH (λ_=>⟨rfl,by omega,by show(i:Int)<4;omega⟩) ?_ |refine⟨λ_=>⟨rfl,by omega,by show(i:Int)<4;omega⟩,?_⟩
   rw [zC,hg]
   refine Wk ?_
   rw [aR (n:=((h+1:Nat):Int)-1) (by omega) (by omega),show(((h+1:Nat):Int)-1)=(h:Int) by omega]
   refine cC (aL0 h (by omega)) ?_
   rw [show(i:Int)*((4^h:Nat):Int)=((i*4^h:Nat):Int) from(zO _ _).symm,aR (n:=((i*4^h:Nat):Int)) (by omega) (by omega)]
   refine Wk ?_
   rw [aR (n:=(0:Int)+((i*4^h:Nat):Int)) (by omega) (by omega),Int.zero_add]
   refine Wk ?_
   refine .mov ⟨λ_=>⟨[0],_,_,_,ih',⟨rfl,trivial⟩,rfl,rfl,?_⟩,(by intro h;cases h)⟩
   refine Wk ?_
   rw [cV (by omega)]
   refine⟨i+1,by show i+1<=4;omega,?_,by show 4- (i+1)<4-i;omega⟩
   dsimp only
   rw [aAT,zU (i*4^h)]
   exact Vw [some 9456,some 1]
  have b1:i=4:=by simp at b1;omega
  subst b1
  rw [<-hp']
  refine Wk ?_
  try subst hk
  exact⟨[some 0],Cl,rfl,Cl,rfl,Cl⟩
theorem bEK {E:cM} (hE:bH E)(h:Nat)(hh:h<=2)(ht:aWB (bQ E 0 (4^h)) h)(hn:fQ E 0 (4^h)=false):aM Tryz.prog 216 [] [.agg (.int .i64 (h:Int)::sub E h 0)] (.sl 0 0 (bQ E 0 (4^h)).length) [.row 3 (bO E (bQ E 0 (4^h)))]:=by
 have k218:=aUZ hE h hh ht
 have k293:=bEP hE h (by omega) hn
 obtain⟨k0,k1,k2,k3,e⟩:=iG hE h 0
 rw [e] at k218 k293⊢
 generalize bQ E 0 (4^h)=l at k293⊢
 refine aF (ob0:= []) [] Tryz.func216 rfl rfl rfl rfl ?_
 refine cC k218 ?_
 refine .inr ⟨λ_=>⟨[],_,_,_,k293,trivial,rfl,rfl,rfl,?_⟩,(by intro h;cases h)⟩
 refine Wk ?_
 try subst hk
 exact⟨[some 1],Cl,rfl,Cl,rfl,Cl⟩
def inB(a q:Nat)(j:Nat):Bool:=bif decide ((a:Int)<=(j:Int)) then decide ((j:Int)- (a:Int)< (q:Int)) else false
theorem aHW {a q j:Nat} :inB a q j=true↔a<=j/\j<a+q:=by
 unfold inB
 by_cases h:(a:Int)<=(j:Int)
 ·rw [decide_eq_true h,cond_true,decide_eq_true_eq];omega
 ·rw [decide_eq_false h,cond_false];simp;omega
theorem rY {α:Type} (p:α->Bool)(l:List α)(k:Nat)(d:α)(h:k<l.length):(l.take (k+1)).filter p=bif p (l.getD k d) then(l.take k).filter p++ [l.getD k d] else(l.take k).filter p:=by
 rw [aCD d h,List.filter_append]
 generalize l.getD k d=x
 cases hp:p x <;> simp [hp]
theorem bIL {E:cM} (hE:bH E):∀(h a:Nat) (l:List Nat) (t:Bool),h<=4->a+4^h<=256->(∀j,a<=j->j<a+4^h->(j∈l↔(E j).1≠0))->(∀j∈l,j<256)->l.length<=100000->
 aM Tryz.prog 296 [] [.lst 3 t (bO E l),.int .i64 (h:Int),.int .i64 (a:Int)] (.agg (sub E h a)) []:=by
 intro h
 induction h using Nat.strongRecOn with
 |ind h ih=>
  intro a l t hh h2 hm hmem hll
  have hp:=aD5 hh
  have ha:a<=256:=Nat.le_trans (Nat.le_add_right a (4^h)) h2
  have hin:=rfl (a:=l.filter (inB a (4^h)))
  generalize hG:l.filter (inB a (4^h))=G at hin
  have hGm:∀j,a<=j->j<a+4^h->(j∈G↔(E j).1≠0):=λj h3 h4=>by
   rw [<-hG,List.mem_filter,<-hm j h3 h4]
   exact⟨λh=>h.1,λh=>⟨h,aHW.2 ⟨h3,h4⟩⟩⟩
  have hGi:∀j∈G,a<=j/\j<a+4^h/\j<256:=λj hj=>by
   rw [<-hG,List.mem_filter] at hj
   exact⟨(aHW.1 hj.2).1,(aHW.1 hj.2).2,hmem j hj.1⟩
  have hGl:G.length<=100000:=by rw [<-hG];exact Nat.le_trans (zW _ _) hll
  have hGn:fQ E a (4^h)=true↔G=[]:=by
   rw [iA,List.eq_nil_iff_forall_not_mem]
   refine⟨λh j hj=>?_,λh i hi=>?_⟩
   ·obtain⟨a1,a2,-⟩:=hGi j hj
    have :=h (j-a) (by omega)
    rw [show a+(j-a)=j by omega] at this
    exact(hGm j a1 a2).1 hj this
   ·by_cases h0:(E (a+i)).1=0
    ·exact h0
    ·exact absurd ((hGm (a+i) (by omega) (by omega)).2 h0) (h _)
  refine aF (ob0:= []) [.s 44] Tryz.func296 rfl rfl rfl rfl ?_
  refine Wk ?_
  refine⟨Nat,λk=>k<=l.length,λk=>⟨[(0,⟨[],true,.lst 3 t (bO E l)⟩),(1,⟨[],true,.int .i64 (h:Int)⟩),(2,⟨[],true,.int .i64 (a:Int)⟩),(6,⟨[],true,.ptr 0 0 0⟩),(7,⟨[],true,.sl 1 0 ((l.take k).filter (inB a (4^h))).length⟩),(8,⟨[],true,.int .i64 (k:Int)⟩)],
   [(0,.box [bR,.int .i64 0,.int .i64 0]),(1,.row 3 (bO E ((l.take k).filter (inB a (4^h)))))],2⟩,λk=>l.length-k,⟨0,zL _,?_⟩,λk hI=>?_⟩
  ·exact Vw [some 0,none]
  dsimp only at hI⊢
  have hfl:((l.take k).filter (inB a (4^h))).length<=100000:=by
   have :=zW (inB a (4^h)) (l.take k)
   have :=List.length_take_le k l
   omega
  refine Wk ?_
  rw [aL]
  refine aC (λb1=>?_) (λb1=>?_)<;> try simp only [zD,zA,zF,zE,zG] at b1
  ·have b1:k<l.length:=by simp at b1;omega
   have hft:=rY (inB a (4^h)) l k 0 b1
   have hib:(bif decide ((a:Int)<=((l.getD k 0:Nat):Int)) then decide (((l.getD k 0:Nat):Int)- (a:Int)< ((4^h:Nat):Int)) else false)=inB a (4^h) (l.getD k 0):=rfl
   have hg:=kC E l k b1
   have hj:=hmem _ (show l.getD k 0∈l by simp only [zH,b1,zQ,yB];exact yC b1)
   generalize l.getD k 0=j at hft hib hg hj
   generalize hF:(l.take k).filter (inB a (4^h))=F at hft hfl
   refine Wk ?_
   first |refine aB (⟨rfl,by omega,by rw [aL];omega⟩) ?_ |refine aH (λ_=>⟨rfl,by omega,by rw [aL];omega⟩) ?_ |refine⟨λ_=>⟨rfl,by omega,by rw [aL];omega⟩,?_⟩
   rw [zC,hg]
   refine Wk ?_
   first |refine aB (⟨rfl,by omega,by rw [aL];omega⟩) ?_ |refine aH (λ_=>⟨rfl,by omega,by rw [aL];omega⟩) ?_ |refine⟨λ_=>⟨rfl,by omega,by rw [aL];omega⟩,?_⟩
   rw [zC,hg]
   refine Wk ?_
   rw [aR (n:=(j:Int)- (a:Int)) (by omega) (by omega)]
   refine cC (aL0 h hh) ?_
   rw [hib]
   refine aC (λb2=>?_) (λb2=>?_)<;> try simp only [zD,zA,zF,zE,zG] at b2
   ·rw [b2,cond_true] at hft
    refine Wk ?_
    first |refine aB (⟨rfl,by omega,by rw [aL];omega⟩) ?_ |refine aH (λ_=>⟨rfl,by omega,by rw [aL];omega⟩) ?_ |refine⟨λ_=>⟨rfl,by omega,by rw [aL];omega⟩,?_⟩
    rw [zC,hg]
    refine Wk ?_
    refine aB (aL E F).symm (bG (by rw [aL];show((F.length+1:Nat):Int)<=_;omega) (by rw [aL];show(F.length+1)*24<=_;omega) ?_)
    refine Wk ?_
    rw [cV (by omega)]
    refine⟨k+1,by show k+1<=_;omega,?_,by show l.length- (k+1)<l.length-k;omega⟩
    dsimp only
    rw [hft]
    refine bX [some 0,some 6449] rfl rfl ?_ rfl ?_ rfl ?_
    repeat' (first |exact trivial |rfl |exact .inl rfl |exact .inr rfl |exact id |exact(λh=>Bool.noConfusion h)|refine And.intro ?_ ?_)
    ·show bO E F++ [oL E j]=_
     simp [bO]
    ·show(bO E F).length+1=_
     rw [aL,zK];rfl
   rw [b2,cond_false] at hft
   refine Wk ?_
   rw [cV (by omega)]
   refine⟨k+1,by show k+1<=_;omega,?_,by show l.length- (k+1)<l.length-k;omega⟩
   dsimp only
   rw [hft]
   exact Vw [some 0,some 1]
  have b1:k=l.length:=by simp at b1;omega
  subst b1
  rw [List.take_length,hG]
  refine Wk ?_
  refine⟨Unit,λ_=>True,λ_=>⟨[(1,⟨[],true,.int .i64 (h:Int)⟩),(2,⟨[],true,.int .i64 (a:Int)⟩),(6,⟨[],true,.ptr 0 0 0⟩),(7,⟨[],true,.lst 3 false (bO E G)⟩),(44,⟨[],true,.lst 3 false (bO E G)⟩)],
   [(0,.box [bR,.int .i64 0,.int .i64 0])],1⟩,?_,λ_ _=>?_⟩
  ·refine Wk ?_
   refine⟨(),trivial,?_⟩
   refine bX [some 0] rfl rfl ?_ rfl ?_ rfl ?_
   repeat' (first |exact trivial |rfl |exact .inl rfl |exact .inr rfl |exact id |exact(λh=>Bool.noConfusion h)|refine And.intro ?_ ?_)
   all_goals first |exact cA rfl (aL _ _)| (rw [aL];omega)
  refine Wk ?_
  rw [aL]
  cases hn:fQ E a (4^h) with
  |true=>
   rw [dZ hE hn,hGn.1 hn]
   refine Wk ?_
   try subst hk
   exact Lf
  |false=>
   have hne:G≠ []:=λe=>by rw [hGn.2 e] at hn;cases hn
   have hl0:0<G.length:=List.length_pos_iff.2 hne
   rw [show((G.length:Int)==0)=false from beq_eq_false_iff_ne.2 (by omega)]
   cases h with
   |zero=>
    have hg0:(bO E G).getD (Int.toNat 0) []=oL E a:=by
     cases G with
     |nil=>exact absurd rfl hne
     |cons x r=>
      obtain⟨a1,a2,-⟩:=hGi x List.mem_cons_self
      have :x=a:=by have :(4:Nat)^0=1:=rfl;omega
      subst this;rfl
    rw [sub]
    refine Wk ?_
    first |refine aB (⟨rfl,by decide,by rw [aL];omega⟩) ?_ |refine aH (λ_=>⟨rfl,by decide,by rw [aL];omega⟩) ?_ |refine⟨λ_=>⟨rfl,by decide,by rw [aL];omega⟩,?_⟩
    rw [hg0]
    refine Wk ?_
    first |refine aB (⟨rfl,by decide,by rw [aL];omega⟩) ?_ |refine aH (λ_=>⟨rfl,by decide,by rw [aL];omega⟩) ?_ |refine⟨λ_=>⟨rfl,by decide,by rw [aL];omega⟩,?_⟩
    rw [hg0]
    refine Wk ?_
    try subst hk
    exact Lf
   |succ h=>
    rw [gT hn]
    have hp':=dN h
    have hkl:(kids E h a).length=4:=rfl
    refine Wk ?_
    refine⟨Nat,λi=>i<=4,λi=>⟨[(1,⟨[],true,.int .i64 ((h+1:Nat):Int)⟩),(2,⟨[],true,.int .i64 (a:Int)⟩),(6,⟨[],true,.ptr 0 0 0⟩),(7,⟨[],true,.lst 3 false (bO E G)⟩),(9,⟨[],true,.ptr 1 0 0⟩),(10,⟨[],true,.int .i64 (i:Int)⟩)],
     [(0,.box [bR,.int .i64 0,.int .i64 0]),(1,.box [.sl 2 0 i,.int .i64 0,.int .i64 ((lI E a (i*4^h):Nat):Int)]),(2,.row 3 ((kids E h a).take i))],3⟩,λi=>4-i,⟨0,zL _,?_⟩,λi hI=>?_⟩
    ·dsimp only
     rw [zP]
     exact Vw [some 0,some 1,none]
    dsimp only at hI⊢
    have hkt:((kids E h a).take i).length=i:=by rw [List.length_take,hkl];omega
    refine Wk ?_
    refine aC (λb2=>?_) (λb2=>?_)<;> try simp only [zD,zA,zF,zE,zG] at b2
    ·have b2:i<4:=by simp at b2;omega
     have hiq:i*4^h<=3*4^h:=zI _ (by omega)
     obtain⟨k0,k1,k2,k3,e⟩:=iG hE h (a+i*4^h)
     have k296:=ih h (Nat.lt_succ_self h) (a+i*4^h) G false (by omega) (by omega) (λj h3 h4=>hGm j (by omega) (by omega)) (λj hj=>(hGi j hj).2.2) hGl
     have hkg:(kids E h a).take (i+1)=(kids E h a).take i++ [sub E h (a+i*4^h)]:=by rw [aCD [] (by rw [hkl];exact b2),eN E h a i b2]
     rw [e] at k296 hkg
     refine Wk ?_
     rw [aR (n:=((h+1:Nat):Int)-1) (by omega) (by omega),show(((h+1:Nat):Int)-1)=(h:Int) by omega]
     refine cC (aL0 h (by omega)) ?_
     rw [show(i:Int)*((4^h:Nat):Int)=((i*4^h:Nat):Int) from(zO _ _).symm,aR (n:=((i*4^h:Nat):Int)) (by omega) (by omega)]
     refine Wk ?_
     rw [aR (n:=(a:Int)+((i*4^h:Nat):Int)) (by omega) (by omega),show(a:Int)+((i*4^h:Nat):Int)=((a+i*4^h:Nat):Int) from(Int.natCast_add _ _).symm]
     refine cC k296 ?_
     refine aB hkt.symm (bG (by rw [hkt];show((i+1:Nat):Int)<=_;omega) (by rw [hkt];show(i+1)*40<=_;omega) ?_)
     refine Wk ?_
     rw [cR (qO hE) (qO hE),vV,cV (by omega)]
     refine⟨i+1,by show i+1<=4;omega,?_,by show 4- (i+1)<4-i;omega⟩
     dsimp only
     rw [hkg]
     refine bX [some 0,some 1,some 5] rfl rfl ?_ rfl ?_ rfl ?_
     repeat' (first |exact trivial |rfl |exact .inl rfl |exact .inr rfl |exact id |exact(λh=>Bool.noConfusion h)|refine And.intro ?_ ?_)
     show((kids E h a).take i).length+1=_
     rw [hkt]
    have b2:i=4:=by simp at b2;omega
    subst b2
    rw [<-hp']
    refine Wk ?_
    refine⟨[],trivial,rfl,trivial,rfl,?_⟩
    try subst hk
    repeat' (first |exact trivial |rfl |exact .inl rfl |exact .inr rfl |exact id |exact(λh=>Bool.noConfusion h)|refine And.intro ?_ ?_)
    exact yD 4
end Go.Proofs.YtmhapcbjjpadnaaGreat
