/- Caches. -/
import Derived.Test.YtmhapcbjjpadnaaGreatGBm
set_option linter.unusedSimpArgs false
set_option linter.unusedVariables false
open Bool renaming cond_false_right→zA,cond_true_left→zC,not_eq_false'→zD,not_eq_true'→zE,not_not→zF
open Int renaming toNat_natCast→zG
open List renaming length_take→zM
open Nat renaming mul_le_mul_right→zH,zero_le→zI,pow_le_pow_right→zJ,le_refl→zK,lt_succ_self→zL,zero_mul→zN,succ_mul→zO,pos_of_ne_zero→zP,le_trans→zQ,mod_lt→zR
set_option linter.constructorNameAsVariable false
set_option maxRecDepth 40000
namespace Go.Proofs.YtmhapcbjjpadnaaGreat
open Go Go.Sk Go.RowKit
theorem qU:aQ Tryz.prog 312 [] [.agg mt] (.bool true) []:=by
 refine aF (ob0:= []) [] Tryz.func312 rfl rfl rfl rfl ?_
 refine Wk ?_
 try subst hk
 exact Lf
theorem aTO(v m:Int)(hv:v≠0):aQ Tryz.prog 312 [] [.agg [bJ,.int .i64 v,.int .i64 m]] (.bool false) []:=by
 have hv:(v==0)=false:=by simpa using hv
 refine aF (ob0:= []) [] Tryz.func312 rfl rfl rfl rfl ?_
 refine Wk ?_
 rw [hv]
 refine Wk ?_
 try subst hk
 exact Lf
theorem vW(ks:List (List V))(v m:Int)(hk:ks.length=4):aQ Tryz.prog 312 [] [.agg [.lst 3 false ks,.int .i64 v,.int .i64 m]] (.bool false) []:=by
 refine aF (ob0:= []) [] Tryz.func312 rfl rfl rfl rfl ?_
 refine Wk ?_
 rw [hk]
 refine Wk ?_
 try subst hk
 exact Lf
theorem aNV {E:cI} (hE:bK E)(h a:Nat):aQ Tryz.prog 312 [] [.agg (sub E h a)] (.bool (fA E a (4^h))) []:=by
 cases hn:fA E a (4^h) with
 |true=>rw [dN hE hn];exact qU
 |false=>
  cases h with
  |zero=>exact aTO _ _ (by simpa [fA] using hn)
  |succ h=>rw [gO hn];exact vW _ _ _ rfl
set_option maxRecDepth 20000 in
theorem bGA(v:Int)(m:Nat)(hv:v≠0)(hm:m<8)(hz:v≤0→m=0):aQ Tryz.prog 343 [] [.agg [bJ,.int .i64 v,.int .i64 (m:Int)]] (.bool true) []:=by
 refine aF (ob0:= []) [] Tryz.func343 rfl rfl rfl rfl ?_
 refine Wk ?_
 rw [show(v != 0)=true by simpa using hv,show decide ((0:Int)≤(m:Int))=true from decide_eq_true (by omega),show decide ((m:Int)≤7)=true from decide_eq_true (by omega),
  show(bif decide (0<v) then true else(m:Int)==0)=true by
   by_cases h0:0<v
   ·rw [decide_eq_true h0];rfl
   ·rw [hz (by omega)];cases decide (0<v)<;> rfl]
 try subst hk
 exact Lf
set_option maxRecDepth 20000 in
theorem bFX {E:cI} (hE:bK E):∀(h a:Nat),h≤4→aQ Tryz.prog 298 [] [.agg (sub E h a),.int .i64 (h:Int)] (.bool true) []:=by
 intro h
 induction h with
 |zero=>
  intro a _
  cases hn:fA E a (4^0) with
  |true=>
   rw [dN hE hn]
   refine aF (ob0:= []) [] Tryz.func298 rfl rfl rfl rfl ?_
   refine dF qU ?_
   try subst hk
   exact Lf
  |false=>
   have hv:(E a).1≠0:=by simpa [fA] using hn
   rw [sub]
   refine aF (ob0:= []) [] Tryz.func298 rfl rfl rfl rfl ?_
   refine Wk2 (aTO _ _ hv) (bGA _ _ hv (hE.small a) (hE.none a)) ?_
   try subst hk
   exact Lf
 |succ h ih=>
  intro a hh
  cases hn:fA E a (4^(h+1)) with
  |true=>
   rw [dN hE hn]
   refine aF (ob0:= []) [] Tryz.func298 rfl rfl rfl rfl ?_
   refine dF qU ?_
   try subst hk
   exact Lf
  |false=>
   rw [gO hn]
   generalize hM:((lS E a (4^(h+1)):Nat):Int)=M
   refine aF (ob0:= []) [] Tryz.func298 rfl rfl rfl rfl ?_
   refine dF (vW (kids E h a) 0 M rfl) ?_
   refine⟨Nat,fun i=>i≤4,fun i=>⟨[(1,⟨[],true,.int .i64 ((h+1:Nat):Int)⟩),(2,⟨[],true,.ptr 0 0 0⟩),(5,⟨[],true,.int .i64 ((lS E a (i*4^h):Nat):Int)⟩),(6,⟨[],true,.bool (!fA E a (i*4^h))⟩),(25,⟨[],true,.lst 3 false (kids E h a)⟩),(26,⟨[],true,.int .i64 4⟩),(27,⟨[],true,.int .i64 (i:Int)⟩)],[(0,.box [.lst 3 false (kids E h a),.int .i64 0,.int .i64 M])],1⟩,fun i=>4-i,⟨0,zI _,?_⟩,fun i hI=>?_⟩
   ·refine cO [some ?k79_0] rfl rfl ?h3_79 ?h4_79 ?h5_79 ?h6_79 ?h7_79
    case' h7_79=>repeat' (first |exact trivial |rfl |exact .inl rfl |exact .inr rfl |exact id |exact(fun h=>Bool.noConfusion h)|refine And.intro ?_ ?_)
    case' h4_79=>rfl
    case' h6_79=>rfl
    case' h3_79=>repeat' (first |exact trivial |rfl |exact .inl rfl |exact .inr rfl |exact id |exact(fun h=>Bool.noConfusion h)|refine And.intro ?_ ?_)
    case' h5_79=>repeat' (first |exact trivial |rfl |exact .inl rfl |exact .inr rfl |exact id |exact(fun h=>Bool.noConfusion h)|refine And.intro ?_ ?_)
    all_goals first | (rw [zN];rfl)|skip
   dsimp only at hI⊢
   refine Wk ?_
   refine aI (fun b1=>?_) (fun b1=>?_)<;> try simp only [zC,zA,zE,zD,zF] at b1
   ·have b1:i<4:=by simp at b1;omega
    obtain⟨k0,k1,k2,k3,e⟩:=iW hE h (a+i*4^h)
    have ih':=ih (a+i*4^h) (by omega)
    have k312:=aNV hE h (a+i*4^h)
    have hg:=eD E h a i b1
    rw [e] at ih' k312 hg
    refine Wk ?_
    first |refine aE (⟨rfl,by omega,by show(i:Int)<4;omega⟩) ?_ |refine aM (fun _=>⟨rfl,by omega,by show(i:Int)<4;omega⟩) ?_ |refine⟨fun _=>⟨rfl,by omega,by show(i:Int)<4;omega⟩,?_⟩
    rw [zG,hg]
    refine Wk ?_
    rw [aY (n:=((h+1:Nat):Int)-1) (by omega) (by omega),show(((h+1:Nat):Int)-1)=(h:Int) by omega]
    refine dF ih' ?_
    rw [fX (oZ hE) (oZ hE),uN]
    refine dF k312 ?_
    rw [aD4,fC (by omega)]
    refine⟨i+1,by show i+1≤4;omega,?_,by show 4- (i+1)<4-i;omega⟩
    exact Vw [some 0]
   have b1:i=4:=by simp at b1;omega
   subst b1
   rw [←dB,hn]
   subst hM
   refine Wk ?_
   rw [beq_self_eq_true]
   try subst hk
   exact Lf
def aAP(i:Nat):List V:= [.int .i64 0,.int .i64 0,.int .i64 (i/4:Nat),.int .i64 (i%4:Nat)]
theorem bAE(i:Nat)(hi:i<16):aQ Tryz.prog 310 [] [.int .i64 (i:Int)] (.agg (aAP i)) []:=by
 match i,hi with
 |0,_=>exact run_eq E1 40 (by kernel_rfl)
 |1,_=>exact run_eq E1 40 (by kernel_rfl)
 |2,_=>exact run_eq E1 40 (by kernel_rfl)
 |3,_=>exact run_eq E1 40 (by kernel_rfl)
 |4,_=>exact run_eq E1 40 (by kernel_rfl)
 |5,_=>exact run_eq E1 40 (by kernel_rfl)
 |6,_=>exact run_eq E1 40 (by kernel_rfl)
 |7,_=>exact run_eq E1 40 (by kernel_rfl)
 |8,_=>exact run_eq E1 40 (by kernel_rfl)
 |9,_=>exact run_eq E1 40 (by kernel_rfl)
 |10,_=>exact run_eq E1 40 (by kernel_rfl)
 |11,_=>exact run_eq E1 40 (by kernel_rfl)
 |12,_=>exact run_eq E1 40 (by kernel_rfl)
 |13,_=>exact run_eq E1 40 (by kernel_rfl)
 |14,_=>exact run_eq E1 40 (by kernel_rfl)
 |15,_=>exact run_eq E1 40 (by kernel_rfl)
 |n+16,hh=>exact absurd hh (by omega)
theorem bAF(i:Nat)(hi:i<16):aQ Tryz.prog 311 [] [.agg (aAP i)] (.int .i64 (htE i:Int)) []:=by
 match i,hi with
 |0,_=>exact run_eq E1 40 (by kernel_rfl)
 |1,_=>exact run_eq E1 40 (by kernel_rfl)
 |2,_=>exact run_eq E1 40 (by kernel_rfl)
 |3,_=>exact run_eq E1 40 (by kernel_rfl)
 |4,_=>exact run_eq E1 40 (by kernel_rfl)
 |5,_=>exact run_eq E1 40 (by kernel_rfl)
 |6,_=>exact run_eq E1 40 (by kernel_rfl)
 |7,_=>exact run_eq E1 40 (by kernel_rfl)
 |8,_=>exact run_eq E1 40 (by kernel_rfl)
 |9,_=>exact run_eq E1 40 (by kernel_rfl)
 |10,_=>exact run_eq E1 40 (by kernel_rfl)
 |11,_=>exact run_eq E1 40 (by kernel_rfl)
 |12,_=>exact run_eq E1 40 (by kernel_rfl)
 |13,_=>exact run_eq E1 40 (by kernel_rfl)
 |14,_=>exact run_eq E1 40 (by kernel_rfl)
 |15,_=>exact run_eq E1 40 (by kernel_rfl)
 |n+16,hh=>exact absurd hh (by omega)
theorem aTI(i:Nat)(hi:i<16):aQ Tryz.prog 235 [] [.int .i64 (i:Int)] (.bool true) []:=by
 refine aF (ob0:= []) [] Tryz.func235 rfl rfl rfl rfl ?_
 refine Wk ?_
 rw [show decide ((0:Int)≤(i:Int))=true from decide_eq_true (by omega),show decide ((i:Int)≤255)=true from decide_eq_true (by omega)]
 try subst hk
 exact Lf
end Go.Proofs.YtmhapcbjjpadnaaGreat
set_option maxRecDepth 40000
namespace Go.Proofs.YtmhapcbjjpadnaaGreat
open Go Go.Sk Go.RowKit
def hiB(E:cI)(h:Nat):Bool:= !fA E (4^h) (3*4^h)
theorem nQ {E:cI} {a n:Nat} (h:fA E a n=true) {b m:Nat} (h1:a≤b)(h2:b+m≤a+n):fA E b m=true:=
 gG.2 fun i hi=>by have :=gG.1 h (b+i-a) (by omega);rwa [show a+(b+i-a)=b+i by omega] at this
set_option maxRecDepth 20000 in
theorem bAB {E:cI} (hE:bK E)(h:Nat):aQ Tryz.prog 299 [] [.agg (sub E (h+1) 0)] (.bool (hiB E h)) []:=by
 have hp':=dB h
 cases hn:fA E 0 (4^(h+1)) with
 |true=>
  rw [dN hE hn,hiB,nQ hn (zI _) (by omega)]
  exact run_eq E1 40 (by kernel_rfl)
 |false=>
  rw [gO hn]
  generalize((lS E 0 (4^(h+1)):Nat):Int)=M
  generalize hk:hiB E h=q
  refine aF (ob0:= []) [] Tryz.func299 rfl rfl rfl rfl ?_
  refine Wk ?_
  refine⟨Nat,fun k=>k≤3∧fA E (4^h) (k*4^h)=true,fun k=>⟨[(1,⟨[],true,.ptr 0 0 0⟩),(3,⟨[],true,.int .i64 ((k+1:Nat):Int)⟩)],[(0,.box [.lst 3 false (kids E h 0),.int .i64 0,.int .i64 M])],1⟩,fun k=>3-k,⟨0,⟨zI _,by rw [zN];rfl⟩,?_⟩,fun k hI=>?_⟩
  ·exact Vq [some _]
  obtain⟨hI1,hI2⟩:=hI
  dsimp only at hI1 hI2⊢
  refine Wk ?_
  rw [show(kids E h 0).length=4 from rfl]
  refine aI (fun b1=>?_) (fun b1=>?_)<;> try simp only [zC,zA,zE,zD,zF] at b1
  ·have b1:k<3:=by simp at b1;omega
   obtain⟨k0,k1,k2,k3,e⟩:=iW hE h ((k+1)*4^h)
   have k312:=aNV hE h ((k+1)*4^h)
   have hg:=eD E h 0 (k+1) (by omega)
   rw [Nat.zero_add] at hg
   have hst:fA E (4^h) ((k+1)*4^h)=fA E ((k+1)*4^h) (4^h):=by
    rw [zO,aGN,hI2,Bool.true_and,Nat.add_comm]
   rw [e] at k312 hg
   refine Wk ?_
   first |refine aE (⟨rfl,by omega,by show((k+1:Nat):Int)<4;omega⟩) ?_ |refine aM (fun _=>⟨rfl,by omega,by show((k+1:Nat):Int)<4;omega⟩) ?_ |refine⟨fun _=>⟨rfl,by omega,by show((k+1:Nat):Int)<4;omega⟩,?_⟩
   rw [zG,hg]
   refine dF k312 ?_
   refine aI (fun b2=>?_) (fun b2=>?_)<;> try simp only [zC,zA,zE,zD,zF] at b2
   ·have b2:fA E ((k+1)*4^h) (4^h)=false:=by simpa using b2
    have hq:q=true:=by
     rw [←hk,hiB]
     cases hh:fA E (4^h) (3*4^h) with
     |false=>rfl
     |true=>
      rw [nQ hh (by rw [zO];omega) (by have :(k+1)*4^h≤3*4^h:=zH _ (by omega);omega)] at b2
      cases b2
    subst hq
    refine Wk ?_
    try subst hk
    exact Lf
   have b2:fA E ((k+1)*4^h) (4^h)=true:=by simpa using b2
   refine Wk ?_
   rw [fC (by omega)]
   refine⟨k+1,⟨by show k+1≤3;omega,by show fA E (4^h) ((k+1)*4^h)=true;rw [hst];exact b2⟩,?_,by show 3- (k+1)<3-k;omega⟩
   exact Vw [some 0]
  have b1:k=3:=by simp at b1;omega
  subst b1
  have hq:q=false:=by rw [←hk,hiB,hI2];rfl
  subst hq
  refine Wk ?_
  try subst hk
  exact Lf
def bEQ(E:cI)(H:Nat):Prop:=match H with
 |0=>True
 |h+1=>hiB E h=true
theorem bBS(E:cI):bEQ E (hgt E):=by
 obtain⟨b1,b2⟩:=jZ E 16
 have key:∀i:Fin 16,∀h:Fin 3,htE i.val=h.val+1→4^h.val≤i.val∧i.val<4^(h.val+1)∧i.val≠0:=by decide
 have hle:=mS (vS E 16)
 cases hh:hgt E with
 |zero=>exact trivial
 |succ h=>
  unfold hgt at hh
  obtain⟨a1,a2,a3⟩:=key ⟨vS E 16,vT E⟩ ⟨h,by omega⟩ hh
  have a1:4^h≤vS E 16:=a1
  have a2:vS E 16<4^(h+1):=a2
  have a3:vS E 16≠0:=a3
  show(!fA E (4^h) (3*4^h))=true
  cases hn:fA E (4^h) (3*4^h) with
  |false=>rfl
  |true=>
   rw [dB] at a2
   have :=gG.1 hn (vS E 16-4^h) (by omega)
   rw [show 4^h+(vS E 16-4^h)=vS E 16 by omega] at this
   rcases b2 with b2 |b2
   ·exact absurd b2 a3
   ·exact absurd this b2.2
set_option maxRecDepth 20000 in
theorem bFI {E:cI} (hE:bK E)(H:Nat)(hh:H≤4)(ht:bEQ E H):aQ Tryz.prog 223 [] [.agg (.int .i64 (H:Int)::sub E H 0)] (.bool true) []:=by
 have k298:=bFX hE H 0 hh
 obtain⟨k0,k1,k2,k3,e⟩:=iW hE H 0
 cases H with
 |zero=>
  rw [e] at k298⊢
  refine aF (ob0:= []) [] Tryz.func223 rfl rfl rfl rfl ?_
  refine dF k298 ?_
  refine .inl ⟨.bool true,fun h=>absurd h (by decide),.inr rfl,?_⟩
  refine Wk ?_
  try subst hk
  exact Lf
 |succ h=>
  have k299:=bAB hE h
  rw [show hiB E h=true from ht] at k299
  rw [e] at k298 k299⊢
  refine aF (ob0:= []) [] Tryz.func223 rfl rfl rfl rfl ?_
  refine Wk2 k298 k299 ?_
  rw [show decide ((0:Int)≤((h+1:Nat):Int))=true from decide_eq_true (by omega),show decide (((h+1:Nat):Int)≤4)=true from decide_eq_true (by omega),show(bif ((h+1:Nat):Int)==0 then true else true)=true by cases(((h+1:Nat):Int)==0)<;> rfl]
  try subst hk
  exact Lf
theorem aLG {E:cI} (hE:bK E):aQ Tryz.prog 223 [] [.agg (can E)] (.bool true) []:=bFI hE (hgt E) (zQ (mS _) (by decide)) (bBS E)
def iK(i h:Nat):Nat:=i/4^h*4^h
theorem aF1(i h:Nat):iK i h=iK i (h+1)+i/4^h%4*4^h:=by
 unfold iK
 have e1:i/4^(h+1)=i/4^h/4:=by rw [Nat.pow_succ,Nat.div_div_eq_div_mul]
 rw [e1,dB,←Nat.mul_assoc,←Nat.add_mul]
 congr 1
 omega
set_option maxRecDepth 20000 in
theorem bA0 {E:cI} (hE:bK E)(hs:tJ E)(H:Nat)(hh:H≤2)(hz:∀j,4^H≤j→(E j).1=0)(i:Nat)(hi:i<16):aQ Tryz.prog 236 [] [.agg (.int .i64 (H:Int)::sub E H 0),.int .i64 (i:Int)] (.agg (sub E 0 i)) []:=by
 have k310:=bAE i hi
 have k311:=bAF i hi
 have hpw:=aGC hi
 obtain⟨k0,k1,k2,k3,e⟩:=iW hE H 0
 have hH:∀h:Nat,h≤2→h<htE i→4^h≤i:=by
  have key:∀i:Fin 16,∀h:Fin 3,h.val<htE i.val→4^h.val≤i.val:=by decide
  exact fun h h1 h2=>key ⟨i,hi⟩ ⟨h,by omega⟩ h2
 have hH2:∀h:Nat,htE i≤h→i<4^h:=fun h h1=>Nat.lt_of_lt_of_le hpw (zJ (by decide) h1)
 rw [e]
 refine aF (ob0:= []) [] Tryz.func236 rfl rfl rfl rfl ?_
 unfold aAP at k310 k311
 refine Wk2 k310 k311 ?_
 refine aI (fun b1=>?_) (fun b1=>?_)<;> try simp only [zC,zA,zE,zD,zF] at b1
 ·have b1:H<htE i:=by simp at b1;omega
  have h0:(E i).1=0:=hz i (hH H hh b1)
  have h1:fA E i (4^0)=true:=gG.2 fun j hj=>by
   obtain rfl:j=0:=by have :(4:Nat)^0=1:=rfl;omega
   exact h0
  rw [dN hE h1]
  refine Wk ?_
  try subst hk
  exact Lf
 have b1:htE i≤H:=by simp at b1;omega
 refine Wk ?_
 have l0:iK i H=0:=by unfold iK;rw [Nat.div_eq_of_lt (hH2 H b1),zN]
 refine⟨Nat,fun h=>h≤H,fun h=>⟨[(4,⟨[],true,.ptr 0 0 0⟩),(5,⟨[],true,.ptr 1 0 0⟩),(6,⟨[],true,.ptr 2 0 0⟩),(7,⟨[],true,.int .i64 (h:Int)⟩)],[(0,.box [bJ,.int .i64 0,.int .i64 0]),(1,.box [.int .i64 0,.int .i64 0,.int .i64 (i/4:Nat),.int .i64 (i%4:Nat)]),(2,.box (sub E h (iK i h)))],3⟩,fun h=>h,⟨H,zK _,?_⟩,fun h hI=>?_⟩
 ·dsimp only
  rw [l0,e]
  exact Vw [some 1,some 2,some 3152]
 dsimp only at hI⊢
 have hlo:iK i h≤i∧i<iK i h+4^h:=by
  have :=Nat.div_add_mod i (4^h)
  have :=zR i (zP (n:=4^h) (by simp))
  unfold iK;rw [Nat.mul_comm];omega
 cases h with
 |zero=>
  have l1:iK i 0=i:=by unfold iK;simp
  rw [l1,sub]
  refine Wk ?_
  refine .inl ⟨.bool true,fun h=>absurd h (by decide),.inr rfl,?_⟩
  refine Wk ?_
  try subst hk
  exact Lf
 |succ h=>
  have hst:=aF1 i h
  cases hn:fA E (iK i (h+1)) (4^(h+1)) with
  |true=>
   have h1:fA E i (4^0)=true:=nQ hn hlo.1 (by have :(4:Nat)^0=1:=rfl;omega)
   rw [dN hE hn,dN hE h1]
   refine dF qU ?_
   rw [show decide ((0:Int)< ((h+1:Nat):Int))=true from decide_eq_true (by omega)]
   refine Wk ?_
   try subst hk
   exact Lf
  |false=>
   rw [gO hn]
   generalize((lS E (iK i (h+1)) (4^(h+1)):Nat):Int)=M
   obtain⟨q0,q1,q2,q3,e2⟩:=iW hE h (iK i h)
   have hd:i/4^h%4<4:=zR _ (by decide)
   have hg:=eD E h (iK i (h+1)) _ hd
   rw [←hst,e2] at hg
   have hkl:(kids E h (iK i (h+1))).length=4:=rfl
   refine dF (vW (kids E h (iK i (h+1))) 0 M rfl) ?_
   rw [show decide ((0:Int)< ((h+1:Nat):Int))=true from decide_eq_true (by omega)]
   refine Wk ?_
   rw [aY (n:=4- ((h+1:Nat):Int)) (by omega) (by omega)]
   obtain rfl |rfl:h=0∨h=1:=by omega
   ·rw [show i/4^0%4=i%4 by simp] at hg hd
    first |refine aE (⟨by decide,by decide⟩) ?_ |refine aM (fun _=>⟨by decide,by decide⟩) ?_ |refine⟨fun _=>⟨by decide,by decide⟩,?_⟩
    refine Wk ?_
    first |refine aE (⟨rfl,by omega,by rw [hkl];omega⟩) ?_ |refine aM (fun _=>⟨rfl,by omega,by rw [hkl];omega⟩) ?_ |refine⟨fun _=>⟨rfl,by omega,by rw [hkl];omega⟩,?_⟩
    rw [zG,hg]
    refine Wk ?_
    refine⟨0,by show 0≤H;omega,?_,zL _⟩
    dsimp only
    rw [e2]
    exact Vw [some 0,some 1,some 2]
   rw [show i/4^1%4=i/4 by omega] at hg hd
   first |refine aE (⟨by decide,by decide⟩) ?_ |refine aM (fun _=>⟨by decide,by decide⟩) ?_ |refine⟨fun _=>⟨by decide,by decide⟩,?_⟩
   refine Wk ?_
   first |refine aE (⟨rfl,by omega,by rw [hkl];omega⟩) ?_ |refine aM (fun _=>⟨rfl,by omega,by rw [hkl];omega⟩) ?_ |refine⟨fun _=>⟨rfl,by omega,by rw [hkl];omega⟩,?_⟩
   rw [zG,hg]
   refine Wk ?_
   refine⟨1,by show 1≤H;omega,?_,zL _⟩
   dsimp only
   rw [e2]
   exact Vw [some 0,some 1,some 2]
theorem aT2 {E:cI} (hE:bK E)(hs:tJ E)(i:Nat)(hi:i<16):aQ Tryz.prog 143 [] [.agg (can E),.int .i64 (i:Int)] (.int .i64 (E i).1) []:=by
 have k223:=aLG hE
 have k236:=bA0 hE hs (hgt E) (mS _) (rM hs) i hi
 have k235:=aTI i hi
 unfold can at k223⊢
 obtain⟨k0,k1,k2,k3,e⟩:=iW hE (hgt E) 0
 rw [e] at k223 k236⊢
 rw [sub] at k236
 refine aF (ob0:= []) [] Tryz.func143 rfl rfl rfl rfl ?_
 refine Wk3 k223 k235 k236 ?_
 try subst hk
 exact Lf
end Go.Proofs.YtmhapcbjjpadnaaGreat
set_option maxRecDepth 40000
namespace Go.Proofs.YtmhapcbjjpadnaaGreat
open Go Go.Sk Go.RowKit
set_option maxRecDepth 20000 in
theorem bAG {E:cI} (hE:bK E)(h a:Nat):aQ Tryz.prog 313 [] [.lst 3 false (kids E h a)] (.agg (sub E (h+1) a)) []:=by
 have hkl:(kids E h a).length=4:=rfl
 generalize hk:sub E (h+1) a=q
 refine aF (ob0:= []) [] Tryz.func313 rfl rfl rfl rfl ?_
 refine Wk ?_
 refine⟨Nat,fun i=>i≤4,fun i=>⟨[(2,⟨[],true,.ptr 0 0 0⟩),(3,⟨[],true,.ptr 1 0 0⟩),(4,⟨[],true,.bool (!fA E a (i*4^h))⟩),(9,⟨[],true,.lst 3 false (kids E h a)⟩),(10,⟨[],true,.int .i64 4⟩),(11,⟨[],true,.int .i64 (i:Int)⟩)],
  [(0,.box [bJ,.int .i64 0,.int .i64 0]),(1,.box [.lst 3 false (kids E h a),.int .i64 0,.int .i64 ((lS E a (i*4^h):Nat):Int)])],2⟩,fun i=>4-i,⟨0,zI _,?_⟩,fun i hI=>?_⟩
 ·dsimp only
  rw [zN]
  exact Vw [some 0,some 1]
 dsimp only at hI⊢
 refine Wk ?_
 refine aI (fun b1=>?_) (fun b1=>?_)<;> try simp only [zC,zA,zE,zD,zF] at b1
 ·have b1:i<4:=by simp at b1;omega
  obtain⟨k0,k1,k2,k3,e⟩:=iW hE h (a+i*4^h)
  have k312:=aNV hE h (a+i*4^h)
  have hg:=eD E h a i b1
  rw [e] at k312 hg
  refine Wk ?_
  first |refine aE (⟨rfl,by omega,by rw [hkl];omega⟩) ?_ |refine aM (fun _=>⟨rfl,by omega,by rw [hkl];omega⟩) ?_ |refine⟨fun _=>⟨rfl,by omega,by rw [hkl];omega⟩,?_⟩
  rw [zG,hg]
  refine Wk ?_
  rw [fX (oZ hE) (oZ hE),uN]
  refine dF k312 ?_
  rw [aD4,fC (by omega)]
  refine⟨i+1,by show i+1≤4;omega,?_,by show 4- (i+1)<4-i;omega⟩
  exact Vw [some 0,some 1]
 have b1:i=4:=by simp at b1;omega
 subst b1
 rw [←dB]
 cases hn:fA E a (4^(h+1)) with
 |true=>
  rw [dN hE hn] at hk
  subst hk
  refine Wk ?_
  try subst hk
  exact Lf
 |false=>
  rw [gO hn] at hk
  subst hk
  refine Wk ?_
  try subst hk
  exact Lf
set_option maxRecDepth 20000 in
theorem bAK {E:cI} (hE:bK E):∀(h a:Nat),aQ Tryz.prog 347 [] [.agg (sub E h a)] (.agg (sub E h a)) []:=by
 intro h
 induction h with
 |zero=>
  intro a
  rw [sub]
  generalize(E a).1=v
  generalize((E a).2:Int)=m
  refine aF (ob0:= []) [] Tryz.func347 rfl rfl rfl rfl ?_
  refine Wk ?_
  refine⟨Unit,fun _=>True,fun _=>⟨[(1,⟨[],true,.ptr 0 0 0⟩),(2,⟨[],true,.ptr 1 0 0⟩),(9,⟨[],true,bJ⟩),(10,⟨[],true,.int .i64 0⟩),(11,⟨[],true,.int .i64 0⟩)],[(0,.box [bJ,.int .i64 v,.int .i64 m]),(1,.box [bJ,.int .i64 0,.int .i64 0])],2⟩,fun _=>0,⟨(),trivial,?_⟩,fun _ _=>?_⟩
  ·exact Vw [some 0,some 1]
  refine Wk ?_
  try subst hk
  exact Lf
 |succ h ih=>
  intro a
  cases hn:fA E a (4^(h+1)) with
  |true=>
   rw [dN hE hn]
   refine aF (ob0:= []) [] Tryz.func347 rfl rfl rfl rfl ?_
   refine Wk ?_
   refine⟨Unit,fun _=>True,fun _=>⟨[(1,⟨[],true,.ptr 0 0 0⟩),(2,⟨[],true,.ptr 1 0 0⟩),(9,⟨[],true,bJ⟩),(10,⟨[],true,.int .i64 0⟩),(11,⟨[],true,.int .i64 0⟩)],[(0,.box mt),(1,.box [bJ,.int .i64 0,.int .i64 0])],2⟩,fun _=>0,⟨(),trivial,?_⟩,fun _ _=>?_⟩
   ·exact Vw [some 0,some 1]
   refine Wk ?_
   try subst hk
   exact Lf
  |false=>
   rw [gO hn]
   generalize((lS E a (4^(h+1)):Nat):Int)=M
   have hkl:(kids E h a).length=4:=rfl
   refine aF (ob0:= []) [] Tryz.func347 rfl rfl rfl rfl ?_
   refine Wk ?_
   refine⟨Nat,fun i=>i≤4,fun i=>⟨[(1,⟨[],true,.ptr 0 0 0⟩),(2,⟨[],true,.ptr 1 0 0⟩),(9,⟨[],true,.lst 3 false (kids E h a)⟩),(10,⟨[],true,.int .i64 4⟩),(11,⟨[],true,.int .i64 (i:Int)⟩)],
    [(0,.box [.sl 2 0 i,.int .i64 0,.int .i64 M]),(1,.box [bJ,.int .i64 0,.int .i64 0]),(2,.row 3 ((kids E h a).take i))],3⟩,fun i=>4-i,⟨0,zI _,?_⟩,fun i hI=>?_⟩
   ·exact Vw [some 0,some 1,none]
   dsimp only at hI⊢
   have hkt:((kids E h a).take i).length=i:=by rw [zM,hkl];omega
   refine Wk ?_
   refine aI (fun b1=>?_) (fun b1=>?_)<;> try simp only [zC,zA,zE,zD,zF] at b1
   ·have b1:i<4:=by simp at b1;omega
    obtain⟨k0,k1,k2,k3,e⟩:=iW hE h (a+i*4^h)
    have ih':=ih (a+i*4^h)
    have hg:=eD E h a i b1
    have hkg:(kids E h a).take (i+1)=(kids E h a).take i++ [sub E h (a+i*4^h)]:=by rw [aB1 [] (by rw [hkl];exact b1),eD E h a i b1]
    rw [e] at ih' hg hkg
    refine Wk ?_
    first |refine aE (⟨rfl,by omega,by rw [hkl];omega⟩) ?_ |refine aM (fun _=>⟨rfl,by omega,by rw [hkl];omega⟩) ?_ |refine⟨fun _=>⟨rfl,by omega,by rw [hkl];omega⟩,?_⟩
    rw [zG,hg]
    refine dF ih' ?_
    refine⟨hkt.symm,by rw [hkt];show((i+1:Nat):Int)≤_;omega,by rw [hkt];show(i+1)*40≤_;omega,?_⟩
    refine Wk ?_
    rw [fC (by omega)]
    refine⟨i+1,by show i+1≤4;omega,?_,by show 4- (i+1)<4-i;omega⟩
    dsimp only
    rw [hkg]
    refine cO [some 0,some 1,some 7248] rfl rfl ?_ rfl ?_ rfl ?_
    repeat' (first |exact trivial |rfl |exact .inl rfl |exact .inr rfl |exact id |exact(fun h=>Bool.noConfusion h)|refine And.intro ?_ ?_)
    show((kids E h a).take i).length+1=_
    rw [hkt]
   have b1:i=4:=by simp at b1;omega
   subst b1
   refine Wk ?_
   refine⟨[],trivial,rfl,trivial,rfl,?_⟩
   try subst hk
   repeat' (first |exact trivial |rfl |exact .inl rfl |exact .inr rfl |exact id |exact(fun h=>Bool.noConfusion h)|refine And.intro ?_ ?_)
   exact zK 4
theorem aF7 {E E':cI} {a:Nat} :∀ {n:Nat},(∀j,a≤j→j<a+n→E j=E' j)→fA E a n=fA E' a n
 |0,_=>rfl
 |n+1,h=>by rw [fA,fA,aF7 (fun j h1 h2=>h j h1 (by omega)),h (a+n) (by omega) (by omega)]
theorem aF9 {E E':cI} {a:Nat} :∀ {n:Nat},(∀j,a≤j→j<a+n→E j=E' j)→lS E a n=lS E' a n
 |0,_=>rfl
 |n+1,h=>by rw [lS,lS,aF9 (fun j h1 h2=>h j h1 (by omega)),h (a+n) (by omega) (by omega)]
theorem sub_congr {E E':cI} :∀ {h a:Nat},(∀j,a≤j→j<a+4^h→E j=E' j)→sub E h a=sub E' h a
 |0,a,hc=>by rw [sub,sub,hc a (zK _) (by simp)]
 |h+1,a,hc=>by
  have hp:=dB h
  rw [sub,sub,aF7 hc,aF9 hc,sub_congr (h:=h) (a:=a) (fun j h1 h2=>hc j h1 (by omega)),sub_congr (h:=h) (a:=a+4^h) (fun j h1 h2=>hc j (by omega) (by omega)),
   sub_congr (h:=h) (a:=a+2*4^h) (fun j h1 h2=>hc j (by omega) (by omega)),sub_congr (h:=h) (a:=a+3*4^h) (fun j h1 h2=>hc j (by omega) (by omega))]
def kV(E:cI)(h a k:Nat):List (List V):=(kids E h a).take k++List.replicate (4-k) mt
theorem aEY(E:cI)(h a k:Nat)(hk:k≤4):(kV E h a k).length=4:=by
 have :(kids E h a).length=4:=rfl
 rw [kV,List.length_append,zM,List.length_replicate];omega
theorem aEX(E:cI)(h a k:Nat)(hk:k<4):(kV E h a k).getD k []=mt:=by
 match k,hk with
 |0,_=>rfl
 |1,_=>rfl
 |2,_=>rfl
 |3,_=>rfl
theorem aEZ(E:cI)(h a k:Nat)(hk:k<4):(kV E h a k).set k (sub E h (a+k*4^h))=kV E h a (k+1):=by
 have hl:(kids E h a).length=4:=rfl
 rw [kV,kV,aB1 [] (by omega),eD E h a k hk,List.set_append_right _ _ (by rw [zM];omega),zM,show k-min k (kids E h a).length=0 by omega,
  show 4-k=(3-k)+1 by omega,List.replicate_succ,List.set_cons_zero,List.append_assoc,List.singleton_append,show 4- (k+1)=3-k by omega]
theorem aNE(E:cI)(h a:Nat):kV E h a 4=kids E h a:=rfl
end Go.Proofs.YtmhapcbjjpadnaaGreat
set_option maxRecDepth 40000
namespace Go.Proofs.YtmhapcbjjpadnaaGreat
open Go Go.Sk Go.RowKit
set_option maxRecDepth 20000 in
set_option maxHeartbeats 2000000 in
theorem bG0 {E:cI} (hE:bK E)(i:Nat)(hi:i<16)(v:Int)(m:Nat)(hE':bK (dA E i (v,m))):∀(h:Nat),h≤2→
 aQ Tryz.prog 314 [] [.agg (sub E h (iK i h)),.int .i64 (h:Int),.agg (aAP i),.agg [bJ,.int .i64 v,.int .i64 (m:Int)]] (.agg (sub (dA E i (v,m)) h (iK i h))) []:=by
 intro h
 induction h with
 |zero=>
  intro _
  have l1:iK i 0=i:=by unfold iK;simp
  rw [l1,sub,sub,cR]
  unfold aAP
  refine aF (ob0:= []) [.s 58] Tryz.func314 rfl rfl rfl rfl ?_
  refine Wk ?_
  try subst hk
  exact Lf
 |succ h ih=>
  intro hh
  have ih':=ih (by omega)
  have hst:=aF1 i h
  have hd:i/4^h%4<4:=zR _ (by decide)
  have hlo:iK i h≤i∧i<iK i h+4^h:=by
   have :=Nat.div_add_mod i (4^h)
   have :=zR i (zP (n:=4^h) (by simp))
   unfold iK;rw [Nat.mul_comm];omega
  have k313:=bAG hE' h (iK i (h+1))
  have hng:∀k,k<4→k≠i/4^h%4→sub E h (iK i (h+1)+k*4^h)=sub (dA E i (v,m)) h (iK i (h+1)+k*4^h):=fun k hk hne=>sub_congr fun j h1 h2=>by
   rw [cW]
   rintro rfl
   rcases Nat.lt_or_gt_of_ne hne with hlt |hlt
   ·have :(k+1)*4^h≤j/4^h%4*4^h:=zH _ hlt
    rw [zO] at this;omega
   ·have :(j/4^h%4+1)*4^h≤k*4^h:=zH _ hlt
    rw [zO] at this;omega
  generalize hD:i/4^h%4=D at hst hd hng
  generalize hA:iK i (h+1)=A at hst k313 hng
  generalize dA E i (v,m)=E' at ih' k313 hng hE'
  obtain⟨q0,q1,q2,q3,e'⟩:=iW hE' (h+1) A
  rw [e'] at k313⊢
  cases hn:fA E A (4^(h+1)) with
  |true=>
   rw [dN hE hn]
   unfold aAP
   refine aF (ob0:= []) [.s 58] Tryz.func314 rfl rfl rfl rfl ?_
   refine dF qU ?_
   refine⟨Nat,fun k=>k≤4,fun k=>⟨[(1,⟨[],true,.int .i64 ((h+1:Nat):Int)⟩),(4,⟨[],true,.ptr 0 0 0⟩),(6,⟨[],true,.ptr 1 0 0⟩),(7,⟨[],true,.ptr 2 0 0⟩),(8,⟨[],true,.ptr 3 0 0⟩),(9,⟨[],true,.sl 4 0 4⟩),(16,⟨[],true,.int .i64 4⟩),(17,⟨[],true,.int .i64 (k:Int)⟩)],
    [(0,.box [bJ,.int .i64 0,.int .i64 0]),(1,.box [.int .i64 0,.int .i64 0,.int .i64 (i/4:Nat),.int .i64 (i%4:Nat)]),(2,.box [bJ,.int .i64 v,.int .i64 (m:Int)]),(3,.box [bJ,.int .i64 0,.int .i64 0]),(4,.row 3 (kV E' h A k))],5⟩,fun k=>4-k,⟨0,zI _,?_⟩,fun k hI=>?_⟩
   ·exact Vw [some 0,some 1,some 2,some 3,some 4]
   dsimp only at hI⊢
   have hpl:=aEY E' h A k hI
   refine Wk ?_
   refine aI (fun b1=>?_) (fun b1=>?_)<;> try simp only [zC,zA,zE,zD,zF] at b1
   ·have b1:k<4:=by simp at b1;omega
    obtain⟨k0,k1,k2,k3,e1⟩:=iW hE h (A+k*4^h)
    have hkm:=dN hE (nQ hn (show A≤A+k*4^h by omega) (show A+k*4^h+4^h≤A+4^(h+1) by have :(k+1)*4^h≤4*4^h:=zH _ (by omega);rw [zO] at this;rw [dB];omega))
    refine dF qU ?_
    have hRg:=aEX E' h A k b1
    rw [←hkm,e1] at hRg
    obtain⟨R,hR⟩:∃R,kV E' h A k=R:=⟨_,rfl⟩
    have hRs:∀x,R.set k x=(kV E' h A k).set k x:=fun _=>by rw [hR]
    rw [hR] at hRg⊢
    have hRl:R.length=4:=by rw [←hR];exact hpl
    clear hR
    rw [aY (n:=4- ((h+1:Nat):Int)) (by omega) (by omega),show decide (0≤4- ((h+1:Nat):Int)∧4- ((h+1:Nat):Int)< ((4:Nat):Int))=true from decide_eq_true ⟨by omega,by omega⟩]
    have k347:=bAK hE h (A+k*4^h)
    rw [e1] at k347
    obtain⟨p0,p1,p2,p3,e3⟩:=iW hE' h (A+k*4^h)
    have hks:=aEZ E' h A k b1
    rw [e3] at hks
    have hvv:(h=0→i%4=D)∧(h=1→i/4=D):=⟨fun h0=>by subst h0;rw [←hD];simp,fun h0=>by subst h0;omega⟩
    obtain rfl |rfl:h=0∨h=1:=by omega
    all_goals
     refine Wk ?_
     refine aI (fun b2=>?_) (fun b2=>?_)<;> try simp only [zC,zA,zE,zD,zF] at b2
     ·have b2:k=D:=by
       have b2:=beq_iff_eq.1 b2
       first | (have :=hvv.1 rfl;omega)| (have :=hvv.2 rfl;omega)
      subst b2
      rw [hst,e1,e3] at ih'
      refine Wk ?_
      first |refine aE (⟨by omega,by omega⟩) ?_ |refine aM (fun _=>⟨by omega,by omega⟩) ?_ |refine⟨fun _=>⟨by omega,by omega⟩,?_⟩
      refine Wk ?_
      first |refine aE (by rw [hRl];omega,by omega) ?_ |refine aM (fun _=>by rw [hRl];omega,by omega) ?_ |refine⟨fun _=>by rw [hRl];omega,by omega,?_⟩
      rw [show 0+(k:Int).toNat=k by omega,hRg]
      refine dF ih' ?_
      first |refine aE (⟨by omega,by omega⟩) ?_ |refine aM (fun _=>⟨by omega,by omega⟩) ?_ |refine⟨fun _=>⟨by omega,by omega⟩,?_⟩
      refine Wk ?_
      rw [show 0+(k:Int).toNat=k by omega,hRg,hRl]
      refine⟨b1,by omega,?_⟩
      refine Wk ?_
      rw [fC (by omega)]
      refine⟨k+1,by show k+1≤4;omega,?_,by show 4- (k+1)<4-k;omega⟩
      dsimp only
      rw [←hks]
      refine cO [some 0,some 1,some 2,some 3,some 4] rfl rfl ?_ rfl ?_ rfl ?_
      repeat' (first |exact trivial |rfl |exact .inl rfl |exact .inr rfl |exact id |exact(fun h=>Bool.noConfusion h)|refine And.intro ?_ ?_)
      exact hRs _
     have b2:k≠D:=by
      have b2:=beq_eq_false_iff_ne.1 b2
      intro b3
      apply b2
      first | (have :=hvv.1 rfl;omega)| (have :=hvv.2 rfl;omega)
     have hsame:=hng k b1 b2
     rw [e1,e3] at hsame
     refine Wk ?_
     rw [show decide (0≤(k:Int)∧(k:Int)< ((4:Nat):Int))=true from decide_eq_true ⟨by omega,by omega⟩]
     refine Wk ?_
     rw [show 0+(k:Int).toNat=k by omega,show decide (k<R.length)=true from decide_eq_true (by rw [hRl];exact b1),hRg]
     refine dF k347 ?_
     rw [show decide (0≤(k:Int)∧(k:Int)< ((4:Nat):Int))=true from decide_eq_true ⟨by omega,by omega⟩]
     refine Wk ?_
     rw [show 0+(k:Int).toNat=k by omega,show decide (k<R.length)=true from decide_eq_true (by rw [hRl];exact b1),hRg]
     refine Wk ?_
     rw [fC (by omega)]
     refine⟨k+1,by show k+1≤4;omega,?_,by show 4- (k+1)<4-k;omega⟩
     rw [←hsame] at hks
     dsimp only
     rw [←hks]
     refine cO [some 0,some 1,some 2,some 3,some 4] rfl rfl ?_ rfl ?_ rfl ?_
     repeat' (first |exact trivial |rfl |exact .inl rfl |exact .inr rfl |exact id |exact(fun h=>Bool.noConfusion h)|refine And.intro ?_ ?_)
     exact hRs _
   have b1:k=4:=by simp at b1;omega
   subst b1
   rw [aNE]
   refine Wk ?_
   refine⟨Unit,fun _=>True,fun _=>⟨[(8,⟨[],true,.ptr 0 0 0⟩),(58,⟨[],true,.lst 3 false (kids E' h A)⟩)],[(0,.box [bJ,.int .i64 0,.int .i64 0])],1⟩,?_,fun _ _=>?_⟩
   ·refine Wk ?_
    refine⟨(),trivial,?_⟩
    refine cO [some 3] rfl rfl ?_ rfl ?_ rfl ?_
    repeat' (first |exact trivial |rfl |exact .inl rfl |exact .inr rfl |exact id |exact(fun h=>Bool.noConfusion h)|refine And.intro ?_ ?_)
    exact zK 4
   refine dF k313 ?_
   try subst hk
   exact Lf
  |false=>
   rw [gO hn]
   generalize((lS E A (4^(h+1)):Nat):Int)=M
   have hkl:(kids E h A).length=4:=rfl
   unfold aAP
   refine aF (ob0:= []) [.s 58] Tryz.func314 rfl rfl rfl rfl ?_
   refine dF (vW (kids E h A) 0 M rfl) ?_
   refine⟨Nat,fun k=>k≤4,fun k=>⟨[(1,⟨[],true,.int .i64 ((h+1:Nat):Int)⟩),(4,⟨[],true,.ptr 0 0 0⟩),(6,⟨[],true,.ptr 1 0 0⟩),(7,⟨[],true,.ptr 2 0 0⟩),(8,⟨[],true,.ptr 3 0 0⟩),(9,⟨[],true,.sl 4 0 4⟩),(16,⟨[],true,.int .i64 4⟩),(17,⟨[],true,.int .i64 (k:Int)⟩)],
    [(0,.box [.lst 3 false (kids E h A),.int .i64 0,.int .i64 M]),(1,.box [.int .i64 0,.int .i64 0,.int .i64 (i/4:Nat),.int .i64 (i%4:Nat)]),(2,.box [bJ,.int .i64 v,.int .i64 (m:Int)]),(3,.box [bJ,.int .i64 0,.int .i64 0]),(4,.row 3 (kV E' h A k))],5⟩,fun k=>4-k,⟨0,zI _,?_⟩,fun k hI=>?_⟩
   ·exact Vw [some 0,some 1,some 2,some 3,some 4]
   dsimp only at hI⊢
   have hpl:=aEY E' h A k hI
   refine Wk ?_
   refine aI (fun b1=>?_) (fun b1=>?_)<;> try simp only [zC,zA,zE,zD,zF] at b1
   ·have b1:k<4:=by simp at b1;omega
    obtain⟨k0,k1,k2,k3,e1⟩:=iW hE h (A+k*4^h)
    have hg:=eD E h A k b1
    rw [e1] at hg
    refine dF (vW (kids E h A) 0 M rfl) ?_
    first |refine aE (⟨rfl,by omega,by rw [hkl];omega⟩) ?_ |refine aM (fun _=>⟨rfl,by omega,by rw [hkl];omega⟩) ?_ |refine⟨fun _=>⟨rfl,by omega,by rw [hkl];omega⟩,?_⟩
    rw [zG,hg]
    refine Wk ?_
    rw [show decide (0≤(k:Int)∧(k:Int)< ((4:Nat):Int))=true from decide_eq_true ⟨by omega,by omega⟩]
    refine Wk ?_
    rw [show 0+(k:Int).toNat=k by omega,show decide (k< (kV E' h A k).length)=true from decide_eq_true (by rw [hpl];exact b1)]
    refine Wk ?_
    rw [aEX E' h A k b1]
    obtain⟨R,hR⟩:∃R,(kV E' h A k).set k (aR 3 mt 0 [.lst k0 k1 k2,.int .i64 k3,.int .i64 ((lS E (A+k*4^h) (4^h):Nat):Int)])=R:=⟨_,rfl⟩
    rw [hR]
    have hRl:R.length=4:=by rw [←hR,List.length_set];exact hpl
    have hRg:R.getD k []=[.lst k0 k1 k2,.int .i64 k3,.int .i64 ((lS E (A+k*4^h) (4^h):Nat):Int)]:=by
     rw [←hR];simp [List.getD_eq_getElem?_getD,hpl,b1];rfl
    have hRs:∀x,R.set k x=(kV E' h A k).set k x:=fun x=>by rw [←hR,List.set_set]
    clear hR
    rw [aY (n:=4- ((h+1:Nat):Int)) (by omega) (by omega),show decide (0≤4- ((h+1:Nat):Int)∧4- ((h+1:Nat):Int)< ((4:Nat):Int))=true from decide_eq_true ⟨by omega,by omega⟩]
    have k347:=bAK hE h (A+k*4^h)
    rw [e1] at k347
    obtain⟨p0,p1,p2,p3,e3⟩:=iW hE' h (A+k*4^h)
    have hks:=aEZ E' h A k b1
    rw [e3] at hks
    have hvv:(h=0→i%4=D)∧(h=1→i/4=D):=⟨fun h0=>by subst h0;rw [←hD];simp,fun h0=>by subst h0;omega⟩
    obtain rfl |rfl:h=0∨h=1:=by omega
    all_goals
     refine Wk ?_
     refine aI (fun b2=>?_) (fun b2=>?_)<;> try simp only [zC,zA,zE,zD,zF] at b2
     ·have b2:k=D:=by
       have b2:=beq_iff_eq.1 b2
       first | (have :=hvv.1 rfl;omega)| (have :=hvv.2 rfl;omega)
      subst b2
      rw [hst,e1,e3] at ih'
      refine Wk ?_
      first |refine aE (⟨by omega,by omega⟩) ?_ |refine aM (fun _=>⟨by omega,by omega⟩) ?_ |refine⟨fun _=>⟨by omega,by omega⟩,?_⟩
      refine Wk ?_
      first |refine aE (by rw [hRl];omega,by omega) ?_ |refine aM (fun _=>by rw [hRl];omega,by omega) ?_ |refine⟨fun _=>by rw [hRl];omega,by omega,?_⟩
      rw [show 0+(k:Int).toNat=k by omega,hRg]
      refine dF ih' ?_
      first |refine aE (⟨by omega,by omega⟩) ?_ |refine aM (fun _=>⟨by omega,by omega⟩) ?_ |refine⟨fun _=>⟨by omega,by omega⟩,?_⟩
      refine Wk ?_
      rw [show 0+(k:Int).toNat=k by omega,hRg,hRl]
      refine⟨b1,by omega,?_⟩
      refine Wk ?_
      rw [fC (by omega)]
      refine⟨k+1,by show k+1≤4;omega,?_,by show 4- (k+1)<4-k;omega⟩
      dsimp only
      rw [←hks]
      refine cO [some 0,some 1,some 2,some 3,some 4] rfl rfl ?_ rfl ?_ rfl ?_
      repeat' (first |exact trivial |rfl |exact .inl rfl |exact .inr rfl |exact id |exact(fun h=>Bool.noConfusion h)|refine And.intro ?_ ?_)
      exact hRs _
     have b2:k≠D:=by
      have b2:=beq_eq_false_iff_ne.1 b2
      intro b3
      apply b2
      first | (have :=hvv.1 rfl;omega)| (have :=hvv.2 rfl;omega)
     have hsame:=hng k b1 b2
     rw [e1,e3] at hsame
     refine Wk ?_
     rw [show decide (0≤(k:Int)∧(k:Int)< ((4:Nat):Int))=true from decide_eq_true ⟨by omega,by omega⟩]
     refine Wk ?_
     rw [show 0+(k:Int).toNat=k by omega,show decide (k<R.length)=true from decide_eq_true (by rw [hRl];exact b1),hRg]
     refine dF k347 ?_
     rw [show decide (0≤(k:Int)∧(k:Int)< ((4:Nat):Int))=true from decide_eq_true ⟨by omega,by omega⟩]
     refine Wk ?_
     rw [show 0+(k:Int).toNat=k by omega,show decide (k<R.length)=true from decide_eq_true (by rw [hRl];exact b1),hRg]
     refine Wk ?_
     rw [fC (by omega)]
     refine⟨k+1,by show k+1≤4;omega,?_,by show 4- (k+1)<4-k;omega⟩
     rw [←hsame] at hks
     dsimp only
     rw [←hks]
     refine cO [some 0,some 1,some 2,some 3,some 4] rfl rfl ?_ rfl ?_ rfl ?_
     repeat' (first |exact trivial |rfl |exact .inl rfl |exact .inr rfl |exact id |exact(fun h=>Bool.noConfusion h)|refine And.intro ?_ ?_)
     exact hRs _
   have b1:k=4:=by simp at b1;omega
   subst b1
   rw [aNE]
   refine Wk ?_
   refine⟨Unit,fun _=>True,fun _=>⟨[(8,⟨[],true,.ptr 0 0 0⟩),(58,⟨[],true,.lst 3 false (kids E' h A)⟩)],[(0,.box [bJ,.int .i64 0,.int .i64 0])],1⟩,?_,fun _ _=>?_⟩
   ·refine Wk ?_
    refine⟨(),trivial,?_⟩
    refine cO [some 3] rfl rfl ?_ rfl ?_ rfl ?_
    repeat' (first |exact trivial |rfl |exact .inl rfl |exact .inr rfl |exact id |exact(fun h=>Bool.noConfusion h)|refine And.intro ?_ ?_)
    exact zK 4
   refine dF k313 ?_
   try subst hk
   exact Lf
end Go.Proofs.YtmhapcbjjpadnaaGreat
set_option maxRecDepth 40000
namespace Go.Proofs.YtmhapcbjjpadnaaGreat
open Go Go.Sk Go.RowKit
theorem aBN {i h:Nat} (hi:i<16)(hh:h≤2):htE i≤h↔i<4^h:=by
 have key:∀i:Fin 16,∀h:Fin 3,htE i.val≤h.val↔i.val<4^h.val:=by decide
 exact key ⟨i,hi⟩ ⟨h,by omega⟩
theorem aL6 {E:cI} {h:Nat} (hh:h≤2)(hz:∀j,4^h≤j→j<16→(E j).1=0):hgt E≤h:=by
 unfold hgt
 rw [aBN (vT E) hh]
 rcases(jZ E 16).2 with h1 |h1
 ·rw [h1];exact zP (by simp)
 ·by_cases h2:vS E 16<4^h
  ·exact h2
  ·exact absurd (hz _ (by omega) h1.1) h1.2
theorem bBT {E:cI} {h:Nat} (hi:hiB E h=true)(hh:h≤1):h+1≤hgt E:=by
 refine Nat.not_lt.1 fun hl=>?_
 have hz:∀j,4^h≤j→j<16→(E j).1=0:=fun j h1 h2=>by
  by_cases h0:(E j).1=0
  ·exact h0
  ·have a1:=(jZ E 16).1 j h2 h0
   have a2:htE (vS E 16)≤h:=by unfold hgt at hl;omega
   rw [aBN (vT E) (by omega)] at a2
   omega
 have hp:4^h+3*4^h≤16:=by
  rcases(show h=0∨h=1 by omega) with rfl |rfl <;> decide
 rw [hiB,show fA E (4^h) (3*4^h)=true from gG.2 fun k hk=>hz _ (by omega) (by omega)] at hi
 cases hi
theorem aX0 {E:cI} (hE:bK E) {h:Nat} (hz:∀j,4^h≤j→(E j).1=0):kids E h 0=[sub E h 0,mt,mt,mt]:=by
 have hm:∀k,1≤k→sub E h (0+k*4^h)=mt:=fun k hk=>dN hE (gG.2 fun j _=>hz _ (by have :1*4^h≤k*4^h:=zH _ hk;omega))
 have h1:=hm 1 (by omega)
 rw [Nat.one_mul] at h1
 rw [kids,h1,hm 2 (by omega),hm 3 (by omega)]
set_option maxRecDepth 20000 in
set_option maxHeartbeats 2000000 in
theorem aTJ {E:cI} (hE:bK E)(hs:tJ E)(i:Nat)(hi:i<16)(v:Int)(m:Nat)(hE':bK (dA E i (v,m))):
 aQ Tryz.prog 237 [] [.agg (can E),.int .i64 (i:Int),.agg [bJ,.int .i64 v,.int .i64 (m:Int)]] (.agg (can (dA E i (v,m)))) []:=by
 have k310:=bAE i hi
 have k311:=bAF i hi
 have hs':=hs.set hi (v,m)
 have hht:=mS i
 have hhE:=mS (vS E 16)
 have hsup:=rM hs
 have k314:=fun h hh=>bG0 hE i hi v m hE' h hh
 unfold aAP at k310 k311 k314
 obtain⟨k0,k1,k2,k3,e⟩:=iW hE (hgt E) 0
 unfold can
 have hne:∀j,j≠i→dA E i (v,m) j=E j:=fun j h=>cW h
 generalize dA E i (v,m)=E' at hE' hs' k314 hne
 rw [e]
 generalize hres:V.agg (.int .i64 (hgt E':Int)::sub E' (hgt E') 0)=res
 refine aF (ob0:= []) [.s 24] Tryz.func237 rfl rfl rfl rfl ?_
 refine dF k310 ?_
 refine⟨Nat,fun h=>h≤2∧hgt E≤h,fun h=>⟨[(3,⟨[],true,.ptr 0 0 0⟩),(5,⟨[],true,.ptr 1 0 0⟩),(6,⟨[],true,.ptr 2 0 0⟩),(7,⟨[],true,.ptr 3 0 0⟩)],
  [(0,.box (.int .i64 (h:Int)::sub E h 0)),(1,.box [bJ,.int .i64 v,.int .i64 (m:Int)]),(2,.box [.int .i64 0,bJ,.int .i64 0,.int .i64 0]),(3,.box [.int .i64 0,.int .i64 0,.int .i64 (i/4:Nat),.int .i64 (i%4:Nat)])],4⟩,fun h=>2-h,⟨hgt E,⟨hhE,zK _⟩,?_⟩,fun h hI=>?_⟩
 ·dsimp only
  rw [e]
  exact Vw [some 0,some 1,some 2,some 3]
 obtain⟨hI1,hI2⟩:=hI
 dsimp only at hI1 hI2⊢
 have hz:∀j,4^h≤j→(E j).1=0:=fun j hj=>hsup j (zQ (zJ (by decide) hI2) hj)
 obtain⟨r0,r1,r2,r3,e1⟩:=iW hE h 0
 rw [e1]
 have k312:=aNV hE h 0
 rw [e1] at k312
 refine dF k311 ?_
 refine aI (fun b1=>?_) (fun b1=>?_)<;> try simp only [zC,zA,zE,zD,zF] at b1
 ·have b1:h<htE i:=by simp at b1;omega
  have k313:=bAG hE h 0
  obtain⟨s0,s1,s2,s3,e2⟩:=iW hE (h+1) 0
  rw [e2] at k313
  have hku:=aX0 hE hz
  rw [e1] at hku
  refine dF k312 ?_
  refine aI (fun b2=>?_) (fun b2=>?_)<;> try simp only [zC,zA,zE,zD,zF] at b2
  ·refine Wk ?_
   refine⟨Unit,fun _=>True,fun _=>⟨[(3,⟨[],true,.ptr 0 0 0⟩),(5,⟨[],true,.ptr 1 0 0⟩),(6,⟨[],true,.ptr 2 0 0⟩),(7,⟨[],true,.ptr 3 0 0⟩),(24,⟨[],true,.lst 3 false (kids E h 0)⟩)],
    [(0,.box [.int .i64 (h:Int),.lst r0 r1 r2,.int .i64 r3,.int .i64 ((lS E 0 (4^h):Nat):Int)]),(1,.box [bJ,.int .i64 v,.int .i64 (m:Int)]),(2,.box [.int .i64 0,bJ,.int .i64 0,.int .i64 0]),(3,.box [.int .i64 0,.int .i64 0,.int .i64 (i/4:Nat),.int .i64 (i%4:Nat)])],4⟩,?_,fun _ _=>?_⟩
   ·refine Wk ?_
    refine⟨(),trivial,?_⟩
    refine cO [some 0,some 1,some 2,some 3] rfl rfl ?_ rfl ?_ rfl ?_
    repeat' (first |exact trivial |rfl |exact .inl rfl |exact .inr rfl |exact id |exact(fun h=>Bool.noConfusion h)|refine And.intro ?_ ?_)
    ·exact zK 4
    ·rw [hku];rfl
   refine dF k313 ?_
   rw [fC (by omega)]
   refine⟨h+1,⟨by show h+1≤2;omega,by show hgt E≤h+1;omega⟩,?_,by show 2- (h+1)<2-h;omega⟩
   dsimp only
   rw [e2]
   exact Vw [some 0,some 1,some 2,some 3]
  have b2:fA E 0 (4^h)=true:=by simpa using b2
  have hmm:sub E (h+1) 0=sub E h 0:=by
   rw [dN hE b2,dN hE]
   exact gG.2 fun j _=>by
    by_cases h0:j<4^h
    ·exact gG.1 b2 j h0
    ·exact hz _ (by omega)
  refine Wk ?_
  rw [fC (by omega)]
  refine⟨h+1,⟨by show h+1≤2;omega,by show hgt E≤h+1;omega⟩,?_,by show 2- (h+1)<2-h;omega⟩
  dsimp only
  rw [hmm,e1]
  exact Vw [some 0,some 1,some 2,some 3]
 have b1:htE i≤h:=by simp at b1;omega
 have hl0:iK i h=0:=by unfold iK;rw [Nat.div_eq_of_lt ((aBN hi hI1).1 b1),zN]
 have k314':=k314 h hI1
 obtain⟨t0,t1,t2,t3,e3⟩:=iW hE' h 0
 rw [hl0,e1,e3] at k314'
 refine dF k314' ?_
 refine⟨Nat,fun g=>g≤2∧hgt E'≤g,fun g=>⟨[(3,⟨[],true,.ptr 0 0 0⟩),(6,⟨[],true,.ptr 1 0 0⟩)],[(0,.box (.int .i64 (g:Int)::sub E' g 0)),(1,.box [.int .i64 0,bJ,.int .i64 0,.int .i64 0])],2⟩,fun g=>g,⟨h,⟨hI1,?_⟩,?_⟩,fun g hg=>?_⟩
 ·exact aL6 hI1 fun j h1 h2=>by rw [hne j (by have :=(aBN hi hI1).1 b1;omega)];exact hz j h1
 ·dsimp only
  rw [e3]
  exact Vw [some 0,some 2]
 obtain⟨hg1,hg2⟩:=hg
 dsimp only at hg1 hg2⊢
 cases g with
 |zero=>
  obtain⟨u0,u1,u2,u3,e4⟩:=iW hE' 0 0
  rw [show hgt E'=0 by omega,e4] at hres
  rw [e4]
  subst hres
  refine Wk ?_
  refine .inl ⟨.bool true,fun h=>absurd h (by decide),.inr rfl,?_⟩
  refine Wk ?_
  try subst hk
  exact Lf
 |succ g=>
  have k299:=bAB hE' g
  cases hn:fA E' 0 (4^(g+1)) with
  |true=>
   rw [dN hE' hn] at k299⊢
   have hb:hiB E' g=false:=by rw [hiB,nQ hn (zI _) (by rw [dB];omega)];rfl
   rw [hb] at k299
   have hz2:hgt E'≤g:=aL6 (by omega) fun j h1 h2=>by
    by_cases h3:j<4^(g+1)
    ·have :=gG.1 hn j h3;rwa [Nat.zero_add] at this
    ·exact rM hs' j (zQ (zJ (by decide) hg2) (by omega))
   have hmm:sub E' g 0=mt:=dN hE' (nQ hn (zI _) (by rw [dB];omega))
   refine Wk2 k299 qU ?_
   rw [show decide ((0:Int)< ((g+1:Nat):Int))=true from decide_eq_true (by omega)]
   refine Wk2 k299 qU ?_
   rw [aY (n:=((g+1:Nat):Int)-1) (by omega) (by omega),show((g+1:Nat):Int)-1=(g:Int) by omega]
   refine⟨g,⟨by show g≤2;omega,hz2⟩,?_,zL g⟩
   dsimp only
   rw [hmm]
   exact Vw [some 0,some 1]
  |false=>
   obtain⟨u0,u1,u2,u3,e4⟩:=iW hE' g 0
   have hres':g+1=hgt E'→V.agg [.int .i64 ((g+1:Nat):Int),.lst 3 false (kids E' g 0),.int .i64 0,.int .i64 (lS E' 0 (4^(g+1)):Nat)]=res:=fun hq=>by rw [←hres,←hq,gO hn]
   rw [gO hn] at k299⊢
   generalize((lS E' 0 (4^(g+1)):Nat):Int)=M at k299 hres'⊢
   refine dF k299 ?_
   rw [show decide ((0:Int)< ((g+1:Nat):Int))=true from decide_eq_true (by omega)]
   cases hb:hiB E' g with
   |true=>
    have hr:=hres' (Nat.le_antisymm (bBT hb (by omega)) hg2)
    subst hr
    refine Wk ?_
    try subst hk
    exact Lf
   |false=>
    have hz2:hgt E'≤g:=aL6 (by omega) fun j h1 h2=>by
     by_cases h3:j<4^(g+1)
     ·have hnn:fA E' (4^g) (3*4^g)=true:=by unfold hiB at hb;simpa using hb
      rw [dB] at h3
      have :=gG.1 hnn (j-4^g) (by omega)
      rwa [show 4^g+(j-4^g)=j by omega] at this
     ·exact rM hs' j (zQ (zJ (by decide) hg2) (by omega))
    refine dF (vW (kids E' g 0) 0 M rfl) ?_
    rw [show(kids E' g 0).getD (Int.toNat 0) []=sub E' g 0 from rfl,e4]
    refine Wk ?_
    rw [aY (n:=((g+1:Nat):Int)-1) (by omega) (by omega),show((g+1:Nat):Int)-1=(g:Int) by omega]
    refine⟨g,⟨by show g≤2;omega,hz2⟩,?_,zL g⟩
    dsimp only
    rw [e4]
    exact Vw [some 0,some 1]
theorem aNQ {E:cI} (hE:bK E)(hs:tJ E)(i:Nat)(hi:i<16)(v:Int):aQ Tryz.prog 148 [] [.agg (can E),.int .i64 (i:Int),.int .i64 v] (.tup [.agg (can (dA E i (v,0))),.int .i64 0]) []:=by
 have hE':bK (dA E i (v,0)):=hE.set (Nat.zero_lt_succ _) (fun _=>rfl)
 have k223:=aLG hE
 have k237:=aTJ hE hs i hi v 0 hE'
 have k235:=aTI i hi
 obtain⟨k0,k1,k2,k3,e⟩:=bC hE
 obtain⟨q0,q1,q2,q3,e'⟩:=bC hE'
 rw [e] at k223
 rw [e,e'] at k237
 rw [e,e']
 refine aF (ob0:= []) [] Tryz.func148 rfl rfl rfl rfl ?_
 refine Wk3 k223 k235 k237 ?_
 try subst hk
 exact Lf
theorem bGB(m:Nat)(hm:m=1∨m=2∨m=4):aQ Tryz.prog 344 [] [.int .i64 (m:Int)] (.bool true) []:=by
 rcases hm with rfl |rfl |rfl
 ·exact run_eq E1 40 (by kernel_rfl)
 ·exact run_eq E1 40 (by kernel_rfl)
 ·exact run_eq E1 40 (by kernel_rfl)
theorem bAC {E:cI} (hE:bK E)(hs:tJ E)(i:Nat)(hi:i<16)(m:Nat)(hm:m=1∨m=2∨m=4)(hv:0< (E i).1):
 aQ Tryz.prog 307 [] [.agg (can E),.int .i64 (i:Int),.int .i64 (m:Int)] (.tup [.agg [bJ,.int .i64 (E i).1,.int .i64 ((E i).2:Int)],.int .i64 0]) []:=by
 have k223:=aLG hE
 have k236:=bA0 hE hs (hgt E) (mS _) (rM hs) i hi
 have k235:=aTI i hi
 have k344:=bGB m hm
 unfold can at k223⊢
 obtain⟨k0,k1,k2,k3,e⟩:=iW hE (hgt E) 0
 rw [e] at k223 k236⊢
 rw [sub] at k236
 generalize(E i).1=v at hv k236⊢
 refine aF (ob0:= []) [] Tryz.func307 rfl rfl rfl rfl ?_
 refine Wk4 k223 k235 k236 k344 ?_
 rw [show decide (v≤0)=false from decide_eq_false (by omega)]
 refine Wk ?_
 try subst hk
 exact Lf
end Go.Proofs.YtmhapcbjjpadnaaGreat
set_option maxRecDepth 40000
namespace Go.Proofs.YtmhapcbjjpadnaaGreat
open Go Go.Sk Go.RowKit
theorem bGF {E:cI} (hE:bK E)(hs:tJ E)(i:Nat)(hi:i<16)(m:Nat)(hm:m=1∨m=2∨m=4)(hv:0< (E i).1):
 aQ Tryz.prog 354 [] [.agg (can E),.int .i64 (i:Int),.int .i64 (m:Int)] (.tup [.agg (can (iQ E i true m)),.int .i64 0]) []:=by
 have hm8:m<8:=by omega
 have hx:=hE.small i
 have hE':=hE.mrk (i:=i) (on:=true) hm8 hv
 have k307:=bAC hE hs i hi m hm hv
 have k237:aQ Tryz.prog 237 [] [.agg (can E),.int .i64 (i:Int),.agg [bJ,.int .i64 (E i).1,.int .i64 ((gP true (E i).2 m:Nat):Int)]] (.agg (can (iQ E i true m))) []:=aTJ hE hs i hi (E i).1 _ hE'
 obtain⟨k0,k1,k2,k3,e⟩:=bC hE
 obtain⟨q0,q1,q2,q3,e'⟩:=bC hE'
 rw [e] at k307
 rw [e,e'] at k237
 rw [e,e']
 generalize(E i).1=v at k307 k237
 generalize(E i).2=x at k307 k237 hx
 refine aF (ob0:= []) [] Tryz.func354 rfl rfl rfl rfl ?_
 refine dF k307 ?_
 rw [fX hx hm8]
 refine dF k237 ?_
 try subst hk
 exact Lf
theorem bGE {E:cI} (hE:bK E)(hs:tJ E)(i:Nat)(hi:i<16)(m:Nat)(hm:m=1∨m=2∨m=4)(hv:0< (E i).1):
 aQ Tryz.prog 353 [] [.agg (can E),.int .i64 (i:Int),.int .i64 (m:Int)] (.tup [.agg (can (iQ E i false m)),.int .i64 0]) []:=by
 have hm8:m<8:=by omega
 have hx:=hE.small i
 have hE':=hE.mrk (i:=i) (on:=false) hm8 hv
 have k307:=bAC hE hs i hi m hm hv
 have k237:aQ Tryz.prog 237 [] [.agg (can E),.int .i64 (i:Int),.agg [bJ,.int .i64 (E i).1,.int .i64 ((gP false (E i).2 m:Nat):Int)]] (.agg (can (iQ E i false m))) []:=aTJ hE hs i hi (E i).1 _ hE'
 obtain⟨k0,k1,k2,k3,e⟩:=bC hE
 obtain⟨q0,q1,q2,q3,e'⟩:=bC hE'
 rw [e] at k307
 rw [e,e'] at k237
 rw [e,e']
 generalize(E i).1=v at k307 k237
 generalize(E i).2=x at k307 k237 hx
 refine aF (ob0:= []) [] Tryz.func353 rfl rfl rfl rfl ?_
 refine dF k307 ?_
 rw [gH hx hm8]
 refine dF k237 ?_
 try subst hk
 exact Lf
end Go.Proofs.YtmhapcbjjpadnaaGreat
