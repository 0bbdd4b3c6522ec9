/- Caches. -/
import Derived.Test.YtmhapcbjjpadnaaGreatGIm
import Derived.Test.YtmhapcbjjpadnaaGreatGTm
import Derived.Test.YtmhapcbjjpadnaaGreatHAm
set_option linter.unusedSimpArgs false
set_option linter.unusedVariables false
open Bool renaming or_eq_false_iff→zG
open Int renaming toNat_natCast→zD
open List renaming getD_eq_getElem?_getD→zA,getElem?_eq_getElem→zF
open Nat renaming le_refl→zC,testBit_or→zE
set_option linter.constructorNameAsVariable false
set_option maxRecDepth 40000
namespace Go.Proofs.YtmhapcbjjpadnaaGreat
open Go Go.Sk Go.RowKit
def iY(b:ByteArray)(i:Nat):UInt8:=b.data.toList.getD i 0
theorem rJ(a b:ByteArray)(k:Nat):iY (a++b) k=if k<a.size then iY a k else iY b (k-a.size):=by
 have e:(a++b).data.toList=a.data.toList++b.data.toList:=by rw [ByteArray.data_append,Array.toList_append]
 have l:a.data.toList.length=a.size:=rfl
 unfold iY
 rw [e,zA,zA,zA]
 by_cases h:k<a.size
 ·rw [if_pos h,List.getElem?_append_left (by omega)]
 ·rw [if_neg h,List.getElem?_append_right (by omega),l]
theorem lW(b:ByteArray)(i j k:Nat):iY (b.extract i j) k=if k<j-i then iY b (i+k) else 0:=by
 have e:(b.extract i j).data.toList=(b.data.toList.drop i).take (j-i):=by rw [ByteArray.data_extract,Array.toList_extract,List.extract_eq_take_drop]
 unfold iY
 rw [e,zA,zA,List.getElem?_take,List.getElem?_drop]
 by_cases h:k<j-i
 ·rw [if_pos h,if_pos h]
 ·rw [if_neg h,if_neg h];rfl
theorem aP7 {b:ByteArray} (hb:b.size=16) {off:Nat} {s:ByteArray} (hr:off+s.size≤16) {k:Nat} (hk:k<16):
 iY (rH b off s) k=if off≤k∧k<off+s.size then iY s (k-off) else iY b k:=by
 unfold rH
 rw [rJ,rJ,lW,lW,fI,cA,hb]
 by_cases h1:k<off
 ·rw [if_pos (by omega),if_pos (by omega),if_pos (by omega),if_neg (by omega),Nat.zero_add]
 ·by_cases h2:k<off+s.size
  ·rw [if_pos (by omega),if_neg (by omega),if_pos (by omega),show k- (min off 16-0)=k-off by omega]
  ·rw [if_neg (by omega),if_pos (by omega),if_neg (by omega),show off+s.size+(k- (min off 16-0+s.size))=k by omega]
theorem aW3(k:Nat):iY z16 k=0:=by
 unfold iY z16
 rw [zA]
 by_cases h:k<16
 ·have key:∀k:Fin 16,((#[0,0,0,0,0,0,0,0,0,0,0,0,0,0,0,0]:Array UInt8).toList[k.val]?).getD 0=0:=by decide
  exact key ⟨k,h⟩
 ·rw [List.getElem?_eq_none (by simp;omega)];rfl
theorem aRI {p:Pg} (h:dU p)(s:Nat)(d:ByteArray) {k:Nat} (hk:k<16):iY (nC p s d).b k=bif pV s p.v (k/8) then iY d k else iY p.b k:=by
 have l:p.b.data.toList.length=16:=h.size
 unfold iY nC
 dsimp only
 rw [zA,jL _ _ _ _ _ (by rw [l];exact hk),decide_eq_true hk]
 rfl
theorem aUO {off n i:Nat} (h:off+n≤16)(h1:off≤i)(h2:i<off+n):(tch off n).testBit (i/8)=true:=by
 have key:∀off n:Fin 17,∀i:Fin 16,off.val≤i.val→i.val<off.val+n.val→(tch off.val n.val).testBit (i.val/8)=true:=by decide +kernel
 exact key ⟨off,by omega⟩ ⟨n,by omega⟩ ⟨i,by omega⟩ h1 h2
theorem aYD {off n i:Nat} (h:off+n≤16)(hi:i<16)(h1:¬(off≤i∧i<off+n))(h2:(tch off n).testBit (i/8)=true):(cov off n).testBit (i/8)=false:=by
 have key:∀off n:Fin 17,∀i:Fin 16,¬(off.val≤i.val∧i.val<off.val+n.val)→(cov off.val n.val).testBit (i.val/8)=false:=by decide +kernel
 exact key ⟨off,by omega⟩ ⟨n,by omega⟩ ⟨i,by omega⟩ h1
theorem aOM(off n:Nat):tch off n<4∧cov off n<4:=pN off n (zC 2)
theorem aKM {t v q:Nat} (ht:t<4)(hv:v<4)(hq:q<2)(h:gP false t v=0)(hb:t.testBit q=true):v.testBit q=true:=by
 have key:∀t v:Fin 4,∀q:Fin 2,gP false t.val v.val=0→t.val.testBit q.val=true→v.val.testBit q.val=true:=by decide
 exact key ⟨t,ht⟩ ⟨v,hv⟩ ⟨q,hq⟩ h hb
theorem aW4 {t c v q:Nat} (ht:t<4)(hc:c<4)(hv:v<4)(hq:q<2)(h:gP false (gP false t c) v=0)(hb:t.testBit q=true)(hn:c.testBit q=false):v.testBit q=true:=by
 have key:∀t c v:Fin 4,∀q:Fin 2,gP false (gP false t.val c.val) v.val=0→t.val.testBit q.val=true→c.val.testBit q.val=false→v.val.testBit q.val=true:=by decide
 exact key ⟨t,ht⟩ ⟨c,hc⟩ ⟨v,hv⟩ ⟨q,hq⟩ h hb hn
theorem aWP {s v q:Nat} (hs:s<4)(hv:v<4)(hq:q<2):pV s v q=(s.testBit q&& !v.testBit q):=by
 have key:∀s v:Fin 4,∀q:Fin 2,pV s.val v.val q.val=(s.val.testBit q.val&& !v.val.testBit q.val):=by decide
 exact key ⟨s,hs⟩ ⟨v,hv⟩ ⟨q,hq⟩
theorem bB6 {q:Nat} (hq:q<2):(3:Nat).testBit q=true:=by
 have key:∀q:Fin 2,(3:Nat).testBit q.val=true:=by decide
 exact key ⟨q,hq⟩
theorem or3 {s:Nat} (hs:s<4):3 ||| s=3:=by
 have key:∀s:Fin 4,3 ||| s.val=3:=by decide
 exact key ⟨s,hs⟩
def upd {α:Type} (A:Nat→α)(p:Nat)(x:α):Nat→α:=fun q=>if q=p then x else A q
theorem dO {α:Type} (A:Nat→α)(p:Nat)(x:α):upd A p x p=x:=if_pos rfl
theorem cS {α:Type} (A:Nat→α) {p q:Nat} (x:α)(h:q≠p):upd A p x q=A q:=if_neg h
structure Mo(A:Nat→Option Pg)(H:Nat→Bool)(z:Nat)(W D:Nat→UInt8):Prop where
 good:∀p P,p<8→A p=some P→dU P
 out:∀x,z≤x→W x=0
 val:∀p P i,p<8→A p=some P→i<16→P.v.testBit (i/8)=true→iY P.b i=W (p*16+i)
 bak:∀p i,p<8→i<16→p*16+i<z→(∀P,A p=some P→P.d.testBit (i/8)=false)→W (p*16+i)=bif H p then 0 else D (p*16+i)
 beh:∀p,p<8→z≤p*16→H p=true
 drt:∀p P,p<8→A p=some P→P.d≠0→p*16<z
 hol:∀p P,p<8→A p=some P→H p=true→P.v=3
theorem dU.dv {P:Pg} (h:dU P) {q:Nat} (hq:q<2)(hb:P.d.testBit q=true):P.v.testBit q=true:=aKM h.d h.v hq h.sub hb
section
variable {A:Nat→Option Pg} {H:Nat→Bool} {z:Nat} {W D:Nat→UInt8} {p:Nat}
theorem Mo.one(m:Mo A H z W D) {X:Option Pg} (hX:∀P,X=some P→dU P∧(∀i,i<16→P.v.testBit (i/8)=true→iY P.b i=W (p*16+i))∧(P.d≠0→p*16<z)∧(H p=true→P.v=3))
 (hb:∀i,p<8→i<16→p*16+i<z→(∀P,X=some P→P.d.testBit (i/8)=false)→W (p*16+i)=bif H p then 0 else D (p*16+i)):Mo (upd A p X) H z W D:=by
 refine⟨fun q P hq hP=>?_,m.out,fun q P i hq hP hi hv=>?_,fun q i hq hi hz hd=>?_,m.beh,fun q P hq hP hd=>?_,fun q P hq hP hh=>?_⟩
 ·by_cases e:q=p
  ·subst e;rw [dO] at hP;exact(hX P hP).1
  ·rw [cS _ _ e] at hP;exact m.good q P hq hP
 ·by_cases e:q=p
  ·subst e;rw [dO] at hP;exact(hX P hP).2.1 i hi hv
  ·rw [cS _ _ e] at hP;exact m.val q P i hq hP hi hv
 ·by_cases e:q=p
  ·subst e;rw [dO] at hd;exact hb i hq hi hz hd
  ·rw [cS _ _ e] at hd;exact m.bak q i hq hi hz hd
 ·by_cases e:q=p
  ·subst e;rw [dO] at hP;exact(hX P hP).2.2.1 hd
  ·rw [cS _ _ e] at hP;exact m.drt q P hq hP hd
 ·by_cases e:q=p
  ·subst e;rw [dO] at hP;exact(hX P hP).2.2.2 hh
  ·rw [cS _ _ e] at hP;exact m.hol q P hq hP hh
theorem Mo.ev(m:Mo A H z W D) {P:Pg} (h:A p=some P)(hd:P.d=0):Mo (upd A p none) H z W D:=by
 refine m.one (fun P h=>by cases h) fun i hp hi hz _=>m.bak p i hp hi hz fun P' h'=>?_
 rw [h] at h'
 injection h' with h'
 subst h'
 rw [hd];exact Nat.zero_testBit _
theorem Mo.ins(m:Mo A H z W D)(hp:p<8)(h:A p=none):Mo (upd A p (some (bif H p then⟨z16,3,0⟩ else⟨z16,0,0⟩))) H z W D:=by
 have hn:∀i,i<16→p*16+i<z→W (p*16+i)=bif H p then 0 else D (p*16+i):=fun i hi hz=>m.bak p i hp hi hz fun P' h'=>by rw [h] at h';cases h'
 refine m.one (fun P hP=>?_) fun i _ hi hz _=>hn i hi hz
 injection hP with hP
 subst hP
 cases hH:H p with
 |true=>
  refine⟨⟨rfl,by decide,by decide,by decide⟩,fun i hi _=>?_,fun h=>absurd rfl h,fun _=>rfl⟩
  show iY z16 i=_
  rw [aW3]
  by_cases x:p*16+i<z
  ·rw [hn i hi x,hH];rfl
  ·exact(m.out _ (by omega)).symm
 |false=>
  refine⟨⟨rfl,by decide,by decide,by decide⟩,fun i hi hv=>?_,fun h=>absurd rfl h,fun h=>by cases h⟩
  have hv:(0:Nat).testBit (i/8)=true:=hv
  rw [Nat.zero_testBit] at hv;cases hv
theorem Mo.fill(m:Mo A H z W D)(hp:p<8) {P:Pg} (h:A p=some P) {s:Nat} (hs:s<4) {d:ByteArray} (hd:∀i,i<16→iY d i=if z≤p*16+i then 0 else D (p*16+i)):Mo (upd A p (some (nC P s d))) H z W D:=by
 have g:=m.good p P hp h
 refine m.one (fun P' hP=>?_) fun i _ hi hz hx=>m.bak p i hp hi hz fun P' h'=>?_
 ·injection hP with hP
  subst hP
  refine⟨aIA g hs d,fun i hi hv=>?_,fun hd=>m.drt p P hp h hd,fun hH=>?_⟩
  ·have hv:(P.v ||| s).testBit (i/8)=true:=hv
   rw [aRI g s d hi,aWP hs g.v (by omega)]
   cases hb:P.v.testBit (i/8) with
   |true=>
    rw [Bool.not_true,Bool.and_false,cond_false]
    exact m.val p P i hp h hi hb
   |false=>
    rw [zE,hb,Bool.false_or] at hv
    rw [hv,Bool.not_false,Bool.and_true,cond_true,hd i hi]
    have hH:H p=false:=by
     cases hH:H p with
     |false=>rfl
     |true=>
      rw [m.hol p P hp h hH,bB6 (by omega)] at hb;cases hb
    by_cases x:z≤p*16+i
    ·rw [if_pos x];exact(m.out _ x).symm
    ·rw [if_neg x,m.bak p i hp hi (by omega),hH]
     ·rfl
     ·intro P' h'
      rw [h] at h'
      injection h' with h'
      subst h'
      cases hq:P.d.testBit (i/8) with
      |false=>rfl
      |true=>rw [g.dv (by omega) hq] at hb;cases hb
  ·show P.v ||| s=3
   rw [m.hol p P hp h hH];exact or3 hs
 ·rw [h] at h'
  injection h' with h'
  subst h'
  exact hx (nC P s d) rfl
theorem Mo.soil(m:Mo A H z W D)(hp:p<8) {P:Pg} (h:A p=some P) {s:Nat} (hs:s<4)(hz:p*16<z):Mo (upd A p (some (gM P s))) H z W D:=by
 refine m.one (fun P' hP=>?_) fun i _ hi hz hx=>m.bak p i hp hi hz fun P' h'=>?_
 ·injection hP with hP
  subst hP
  exact⟨rD (m.good p P hp h) hs,fun i hi hv=>m.val p P i hp h hi hv,fun _=>hz,fun hH=>m.hol p P hp h hH⟩
 ·rw [h] at h'
  injection h' with h'
  subst h'
  have hx:(P.d ||| (s &&& P.v)).testBit (i/8)=false:=hx _ rfl
  rw [zE,zG] at hx
  exact hx.1
theorem Mo.grow(m:Mo A H z W D) {z':Nat} (hz:z≤z')(ht:z<z'→z%16≠0→H (z/16)=false→∃P,A (z/16)=some P∧∀q,z%16/8≤q→q<2→P.d.testBit q=true):Mo A H z' W D:=by
 refine⟨m.good,fun x hx=>m.out x (by omega),m.val,fun p i hp hi hx hd=>?_,fun p hp h=>m.beh p hp (by omega),fun p P hp hP hd=>Nat.lt_of_lt_of_le (m.drt p P hp hP hd) hz,m.hol⟩
 by_cases x:p*16+i<z
 ·exact m.bak p i hp hi x hd
 ·rw [m.out _ (by omega)]
  cases hH:H p with
  |true=>rfl
  |false=>
   have h1:p*16<z:=by
    by_cases y:p*16<z
    ·exact y
    ·rw [m.beh p hp (by omega)] at hH;cases hH
   have e:z/16=p:=by omega
   obtain⟨P,k1,k2⟩:=ht (by omega) (by omega) (by rw [e];exact hH)
   rw [e] at k1
   have :=hd P k1
   rw [k2 (i/8) (by omega) (by omega)] at this
   cases this
theorem Mo.shr(m:Mo A H z W D) {z':Nat} (hz:z'≤z)(hW:∀x,z'≤x→W x=0)(hh:∀p,p<8→z'≤p*16→H p=true∧∀P,A p=some P→P.d=0):Mo A H z' W D:=by
 refine⟨m.good,hW,m.val,fun p i hp hi hx hd=>m.bak p i hp hi (by omega) hd,fun p hp h=>(hh p hp h).1,fun p P hp hP hd=>?_,m.hol⟩
 by_cases y:p*16<z'
 ·exact y
 ·exact absurd ((hh p hp (by omega)).2 P hP) hd
theorem Mo.wr(m:Mo A H z W D)(hp:p<8) {P:Pg} (h:A p=some P) {off:Nat} {s:ByteArray} (hr:off+s.size≤16)(h1:1≤s.size)(hn:mH P off s.size true=0)(hz:p*16+off+s.size≤z)
 {W':Nat→UInt8} (hW:∀x,W' x=if p*16+off≤x∧x<p*16+off+s.size then iY s (x- (p*16+off)) else W x):Mo (upd A p (some (dX P off s))) H z W' D:=by
 have g:=m.good p P hp h
 obtain⟨t1,t2⟩:=aOM off s.size
 have hold:∀q i,q≠p→i<16→W' (q*16+i)=W (q*16+i):=fun q i hq hi=>by rw [hW,if_neg (by omega)]
 refine⟨fun q P' hq hP=>?_,fun x hx=>?_,fun q P' i hq hP hi hv=>?_,fun q i hq hi hx hd=>?_,m.beh,fun q P' hq hP hd=>?_,fun q P' hq hP hh=>?_⟩
 ·by_cases e:q=p
  ·subst e;rw [dO] at hP;injection hP with hP;subst hP;exact oB g hr
  ·rw [cS _ _ e] at hP;exact m.good q P' hq hP
 ·rw [hW,if_neg (by omega)];exact m.out x hx
 ·by_cases e:q=p
  ·subst e
   rw [dO] at hP
   injection hP with hP
   subst hP
   have hv:(P.v ||| tch off s.size).testBit (i/8)=true:=hv
   show iY (rH P.b off s) i=_
   rw [aP7 g.size hr hi,hW]
   by_cases x:off≤i∧i<off+s.size
   ·rw [if_pos x,if_pos (by omega),show q*16+i- (q*16+off)=i-off by omega]
   ·rw [if_neg x,if_neg (by omega)]
    refine m.val q P i hq h hi ?_
    cases hb:P.v.testBit (i/8) with
    |true=>rfl
    |false=>
     rw [zE,hb,Bool.false_or] at hv
     have hc:=aYD hr hi x hv
     have :=aW4 t1 t2 g.v (by omega) hn hv hc
     rw [hb] at this;exact this
  ·rw [cS _ _ e] at hP
   rw [hold q i e hi];exact m.val q P' i hq hP hi hv
 ·by_cases e:q=p
  ·subst e
   rw [dO] at hd
   have hd:(P.d ||| tch off s.size).testBit (i/8)=false:=hd _ rfl
   rw [zE,zG] at hd
   have hx2:¬(off≤i∧i<off+s.size):=fun x=>by
    rw [aUO hr x.1 x.2] at hd;cases hd.2
   rw [hW,if_neg (by omega)]
   refine m.bak q i hq hi hx fun P' h'=>?_
   rw [h] at h'
   injection h' with h'
   subst h'
   exact hd.1
  ·rw [cS _ _ e] at hd
   rw [hold q i e hi];exact m.bak q i hq hi hx hd
 ·by_cases e:q=p
  ·subst e;omega
  ·rw [cS _ _ e] at hP;exact m.drt q P' hq hP hd
 ·by_cases e:q=p
  ·subst e
   rw [dO] at hP
   injection hP with hP
   subst hP
   show P.v ||| tch off s.size=3
   rw [m.hol q P hq h hh];exact or3 t1
  ·rw [cS _ _ e] at hP;exact m.hol q P' hq hP hh
theorem Mo.wipe(m:Mo A H z W D) {W':Nat→UInt8} (hW:∀x,W' x=if p*16≤x∧x<p*16+16 then 0 else W x):Mo (upd A p none) (upd H p true) z W' D:=by
 have hold:∀q i,q≠p→i<16→W' (q*16+i)=W (q*16+i):=fun q i hq hi=>by rw [hW,if_neg (by omega)]
 refine⟨fun q P' hq hP=>?_,fun x hx=>?_,fun q P' i hq hP hi hv=>?_,fun q i hq hi hx hd=>?_,fun q hq hx=>?_,fun q P' hq hP hd=>?_,fun q P' hq hP hh=>?_⟩
 ·by_cases e:q=p
  ·subst e;rw [dO] at hP;cases hP
  ·rw [cS _ _ e] at hP;exact m.good q P' hq hP
 ·rw [hW]
  by_cases y:p*16≤x∧x<p*16+16
  ·rw [if_pos y]
  ·rw [if_neg y];exact m.out x hx
 ·by_cases e:q=p
  ·subst e;rw [dO] at hP;cases hP
  ·rw [cS _ _ e] at hP
   rw [hold q i e hi];exact m.val q P' i hq hP hi hv
 ·by_cases e:q=p
  ·subst e
   rw [dO,hW,if_pos (by omega)];rfl
  ·rw [cS _ _ e] at hd
   rw [cS _ _ e,hold q i e hi];exact m.bak q i hq hi hx hd
 ·by_cases e:q=p
  ·subst e;exact dO _ _ _
  ·rw [cS _ _ e];exact m.beh q hq hx
 ·by_cases e:q=p
  ·subst e;rw [dO] at hP;cases hP
  ·rw [cS _ _ e] at hP;exact m.drt q P' hq hP hd
 ·by_cases e:q=p
  ·subst e;rw [dO] at hP;cases hP
  ·rw [cS _ _ e] at hP hh;exact m.hol q P' hq hP hh
theorem Mo.wtn(m:Mo A H z W D)(hp:p<8) {P:Pg} (h:A p=some P)(hd:P.d≠0) {D':Nat→UInt8}
 (hD:∀q i,i<16→D' (q*16+i)=if q=p∧(H p=true∨P.d.testBit (i/8)=true) then iY P.b i else D (q*16+i)):Mo (upd A p (some ⟨P.b,P.v,0⟩)) (upd H p false) z W D':=by
 have g:=m.good p P hp h
 have hpz:=m.drt p P hp h hd
 refine⟨fun q P' hq hP=>?_,m.out,fun q P' i hq hP hi hv=>?_,fun q i hq hi hx hdd=>?_,fun q hq hx=>?_,fun q P' hq hP hd=>?_,fun q P' hq hP hh=>?_⟩
 ·by_cases e:q=p
  ·subst e
   rw [dO] at hP
   injection hP with hP
   subst hP
   exact⟨g.size,g.v,by show 0<4;omega,by show gP false 0 P.v=0;exact Nat.zero_and _⟩
  ·rw [cS _ _ e] at hP;exact m.good q P' hq hP
 ·by_cases e:q=p
  ·subst e
   rw [dO] at hP
   injection hP with hP
   subst hP
   exact m.val q P i hq h hi hv
  ·rw [cS _ _ e] at hP;exact m.val q P' i hq hP hi hv
 ·by_cases e:q=p
  ·subst e
   rw [dO,cond_false,hD q i hi]
   by_cases x:H q=true∨P.d.testBit (i/8)=true
   ·rw [if_pos ⟨rfl,x⟩]
    refine(m.val q P i hq h hi ?_).symm
    rcases x with x |x
    ·rw [m.hol q P hq h x];exact bB6 (by omega)
    ·exact g.dv (by omega) x
   ·rw [if_neg fun y=>x y.2]
    rw [not_or] at x
    rw [m.bak q i hq hi hx,show H q=false by simpa using x.1]
    ·rfl
    ·intro P' h'
     rw [h] at h'
     injection h' with h'
     subst h'
     simpa using x.2
  ·rw [cS _ _ e] at hdd
   rw [cS _ _ e,hD q i hi,if_neg fun y=>e y.1]
   exact m.bak q i hq hi hx hdd
 ·by_cases e:q=p
  ·subst e;omega
  ·rw [cS _ _ e];exact m.beh q hq hx
 ·by_cases e:q=p
  ·subst e;exact hpz
  ·rw [cS _ _ e] at hP;exact m.drt q P' hq hP hd
 ·by_cases e:q=p
  ·subst e;rw [dO] at hh;cases hh
  ·rw [cS _ _ e] at hP hh;exact m.hol q P' hq hP hh
theorem Mo.rd(m:Mo A H z W D)(hp:p<8) {P:Pg} (h:A p=some P) {off n:Nat} (hr:off+n≤16)(hn:mH P off n false=0) {i:Nat} (h1:off≤i)(h2:i<off+n):iY P.b i=W (p*16+i):=
 m.val p P i hp h (by omega) (aKM (aOM off n).1 (m.good p P hp h).v (by omega) hn (aUO hr h1 h2))
end
end Go.Proofs.YtmhapcbjjpadnaaGreat
set_option maxRecDepth 40000
namespace Go.Proofs.YtmhapcbjjpadnaaGreat
open Go Go.Sk Go.RowKit
theorem aFX(n k:Nat):iY (zB n) k=0:=by
 unfold iY zB
 rw [zA,List.getElem?_replicate]
 split <;> rfl
def aA(c:Dc)(p:Nat):Option Pg:=(cC c 0 p).map fun x=>x.2.p
def aH(c:Dc)(p:Nat):Bool:=eU (c.fl.getD 0 aK).blocks p
def Md(c:Dc)(W D:Nat→UInt8):Prop:=Mo (aA c) (aH c) (c.fl.getD 0 aK).size W D
theorem jR {c:Dc} {p m:Nat} {u:Us} (h:cC c 0 p=some (m,u)):aA c p=some u.p:=by unfold aA;rw [h];rfl
theorem aBH {c:Dc} {p:Nat} (h:cC c 0 p=none):aA c p=none:=by unfold aA;rw [h];rfl
theorem aMM {c d:Dc} (h:∀p,cC d 0 p=cC c 0 p):aA d=aA c:=funext fun p=>by unfold aA;rw [h]
theorem aFS {c d:Dc} {p:Nat} {X:Option Pg} (h:∀q,q≠p→cC d 0 q=cC c 0 q)(hp:aA d p=X):aA d=upd (aA c) p X:=funext fun q=>by
 by_cases e:q=p
 ·subst e;rw [dO,hp]
 ·rw [cS _ _ e];unfold aA;rw [h q e]
theorem Md.of {c d:Dc} {W D:Nat→UInt8} (m:Md c W D)(h1:∀p,cC d 0 p=cC c 0 p)(h2:(d.fl.getD 0 aK).blocks=(c.fl.getD 0 aK).blocks)(h3:(d.fl.getD 0 aK).size=(c.fl.getD 0 aK).size):Md d W D:=by
 unfold Md
 rw [aMM h1,h3,show aH d=aH c from funext fun p=>by unfold aH;rw [h2]]
 exact m
theorem Md.sim {a b:Dc} {W D:Nat→UInt8} (s:kI a b)(m:Md b W D):Md a W D:=m.of (fun p=>s.pg 0 p) (by rw [s.fl]) (by rw [s.fl])
theorem aO2(c:Dc)(m:Nat)(u:Us)(f:Nat):((c.put m u).fl.getD f aK).blocks=(c.fl.getD f aK).blocks:=by
 show((c.fl.set u.file (dG (c.fl.getD u.file aK) (mE (c.fl.getD u.file aK).E u))).getD f aK).blocks=_
 by_cases e:f=u.file
 ·subst e
  by_cases hl:u.file<c.fl.length
  ·rw [aD _ _ _ _ hl];rfl
  ·rw [fD _ _ (Nat.le_of_not_lt hl)]
 ·rw [getD_set_ne _ _ _ e]
theorem aKG(c:Dc)(m:Nat)(u:Us):aH (c.put m u)=aH c:=funext fun p=>by unfold aH;rw [aO2]
theorem aBX {c:Dc} (h:Ok c)(hf:0<c.fl.length) {p m:Nat} {u u':Us} (hp:cC c 0 p=some (m,u)):aA (c.put m u')=upd (aA c) p (some u'.p):=by
 obtain⟨q1,q2,q3,q4,q5⟩:=bI h hf hp
 refine aFS (fun q hq=>?_) ?_
 ·rw [rQ h q1 q2 0 q hf,if_neg fun e=>hq (e.2.trans q4)]
 ·refine jR (m:=m) ?_
  rw [rQ h q1 q2 0 p hf,if_pos ⟨q3.symm,q4.symm⟩]
theorem Md.put {c:Dc} (h:Ok c)(hf:0<c.fl.length) {p m:Nat} {u u':Us} (hp:cC c 0 p=some (m,u)) {W D:Nat→UInt8} (k:Mo (upd (aA c) p (some u'.p)) (aH c) (c.fl.getD 0 aK).size W D):Md (c.put m u') W D:=by
 unfold Md
 rw [aBX h hf hp,aKG,iT];exact k
theorem aUV {α:Type} (A:Nat→α)(p:Nat)(x:α)(h:A p=x):upd A p x=A:=funext fun q=>by
 by_cases e:q=p
 ·subst e;rw [dO,h]
 ·rw [cS _ _ e]
theorem Ok.pg_of {c:Dc} (h:Ok c) {m:Nat} {u:Us} (hm:m<c.fr.length)(hu:c.fr.getD m none=some u):cC c u.file u.page=some (m,u):=by
 unfold cC
 rw [(h.use m u hm hu).val,decide_eq_true (show(0:Int)< ((m+1:Nat):Int) by omega),cond_true,show(((m+1:Nat):Int)-1).toNat=m by omega,hu];rfl
theorem Md.put0 {c:Dc} (h:Ok c)(h1:c.fl.length=1) {m:Nat} {u u':Us} (hm:m<c.fr.length)(hu:c.fr.getD m none=some u)(hk:u'.p=u.p) {W D:Nat→UInt8} (k:Md c W D):Md (c.put m u') W D:=by
 have hf:=(h.use m u hm hu).file
 have e0:u.file=0:=by omega
 have hp:=h.pg_of hm hu
 rw [e0] at hp
 refine Md.put (W:=W) (D:=D) h (by omega) hp ?_
 rw [hk,aUV _ _ _ (jR hp)];exact k
theorem aWQ {b p q:Nat} (hb:b<256)(hp:p<8)(hq:q<8):eU (onB b p) q=if q=p then false else eU b q:=by
 have key:∀p q:Fin 8,∀b:Fin 256,eU (onB b.val p.val) q.val=if q.val=p.val then false else eU b.val q.val:=by decide +kernel
 exact key ⟨p,hp⟩ ⟨q,hq⟩ ⟨b,hb⟩
theorem aSB {b p q:Nat} (hb:b<256)(hp:p<8)(hq:q<8):eU (qT b p) q=if q=p then true else eU b q:=by
 have key:∀p q:Fin 8,∀b:Fin 256,eU (qT b.val p.val) q.val=if q.val=p.val then true else eU b.val q.val:=by decide +kernel
 exact key ⟨p,hp⟩ ⟨q,hq⟩ ⟨b,hb⟩
theorem Mo.congr {A A':Nat→Option Pg} {H H':Nat→Bool} {z:Nat} {W W' D D':Nat→UInt8} (m:Mo A H z W D)(hA:∀p,p<8→A' p=A p)(hH:∀p,p<8→H' p=H p)(hW:∀x,W' x=W x)(hD:∀x,x<128→D' x=D x):Mo A' H' z W' D':=by
 obtain rfl:W'=W:=funext hW
 refine⟨fun p P hp hP=>m.good p P hp (by rw [←hA p hp];exact hP),m.out,fun p P i hp hP hi hv=>m.val p P i hp (by rw [←hA p hp];exact hP) hi hv,fun p i hp hi hz hd=>?_,fun p hp hz=>by rw [hH p hp];exact m.beh p hp hz,fun p P hp hP hd=>m.drt p P hp (by rw [←hA p hp];exact hP) hd,fun p P hp hP hh=>m.hol p P hp (by rw [←hA p hp];exact hP) (by rw [←hH p hp];exact hh)⟩
 rw [hH p hp,hD _ (by omega)]
 exact m.bak p i hp hi hz fun P hP=>hd P (by rw [hA p hp];exact hP)
theorem aXI {c:Dc} (h:Ok c) {f p t m:Nat} {z:List Zn} {g:List Gr} (hf:f<c.fl.length)(hn:c.fr.getD m none=none) {q:Nat} (hq:q≠p):cC (c.ins f p t z g m) f q=cC c f q:=by
 have e:((c.ins f p t z g m).fl.getD f aK).E q=(c.fl.getD f aK).E q:=by
  show((c.fl.set f (dG (c.fl.getD f aK) (dA (c.fl.getD f aK).E p (((m+1:Nat):Int),0)))).getD f aK).E q=_
  rw [aD _ _ _ _ hf,dK,cW hq]
 unfold cC
 rw [e]
 cases hd:decide (0< ((c.fl.getD f aK).E q).1) with
 |false=>rfl
 |true=>
  obtain⟨n,w,k1,k2,k3,k4,k5⟩:=h.ent f q hf (of_decide_eq_true hd)
  have hnm:n≠m:=by
   rintro rfl
   rw [hn] at k3;cases k3
  rw [cond_true,cond_true,k2,show(((n+1:Nat):Int)-1).toNat=n by omega]
  show((c.fr.set m _).getD n none).map _=_
  rw [getD_set_ne _ _ _ hnm]
theorem Md.ins {c:Dc} (h:Ok c)(h1:c.fl.length=1) {W D:Nat→UInt8} (k:Md c W D)(f p t pf:Int)(ur:Bool):Md (jB c f p t pf ur).1 W D:=by
 unfold jB inI
 by_cases e:(0≤f∧f< (c.fl.length:Int))∧(0≤p∧p<8)∧(0≤t∧t< (c.gr.length:Int))∧0≤pf∧pf< (c.zo.length:Int)
 ·rw [decide_eq_true e,cond_true]
  obtain⟨p,rfl⟩:∃q:Nat,p=(q:Int):=⟨p.toNat,by omega⟩
  have ef:f.toNat=0:=by omega
  rw [ef,zD]
  generalize t.toNat=t
  unfold eA
  by_cases e1:0< ((c.fl.getD 0 aK).E p).1
  ·rw [decide_eq_true e1];exact k
  rw [decide_eq_false e1,cond_false]
  cases e2:((cB c.gr t).2==0) with
  |false=>exact k
  |true=>
   rw [cond_true]
   cases e3:((bX c.zo c.zo pf ur).2.2==0) with
   |false=>exact k
   |true=>
    obtain⟨m,m1,m2,m3⟩:=take_at h (eq_of_beq e3)
    rw [cond_true]
    dsimp only
    rw [m2,show(((m+1:Nat):Int)-1).toNat=m by omega]
    have hn:cC c 0 p=none:=by
     unfold cC
     rw [decide_eq_false e1];rfl
    have hfl:∀z g,((c.ins 0 p t z g m).fl.getD 0 aK).blocks=(c.fl.getD 0 aK).blocks∧((c.ins 0 p t z g m).fl.getD 0 aK).size=(c.fl.getD 0 aK).size:=fun z g=>by
     show((c.fl.set 0 (dG (c.fl.getD 0 aK) _)).getD 0 aK).blocks=_∧((c.fl.set 0 (dG (c.fl.getD 0 aK) _)).getD 0 aK).size=_
     rw [aD _ _ _ _ (by omega)];exact⟨rfl,rfl⟩
    have hpg:∀z g,cC (c.ins 0 p t z g m) 0 p=some (m,qP c 0 p t):=fun z g=>by
     have hE:(((c.ins 0 p t z g m).fl.getD 0 aK).E p).1=((m+1:Nat):Int):=by
      show(((c.fl.set 0 (dG (c.fl.getD 0 aK) (dA (c.fl.getD 0 aK).E p (((m+1:Nat):Int),0)))).getD 0 aK).E p).1=_
      rw [aD _ _ _ _ (by omega),dK,cR]
     unfold cC
     rw [hE,decide_eq_true (by omega),cond_true,show(((m+1:Nat):Int)-1).toNat=m by omega]
     show((c.fr.set m (some (qP c 0 p t))).getD m none).map _=_
     rw [aD _ _ _ _ m1];rfl
    unfold Md
    rw [aFS (c:=c) (fun q hq=>aXI h (by omega) m3 hq) (jR (hpg _ _)),(hfl _ _).2,show aH (c.ins 0 p t _ _ m)=aH c from funext fun q=>by unfold aH;rw [(hfl _ _).1]]
    exact Mo.ins k (by omega) (aBH hn)
 ·rw [decide_eq_false e];exact k
theorem aPX {c:Dc} {m:Nat} {u:Us} {v:Int} (hf:u.file<c.fl.length)(hv:v≤0):cC (c.gone m u v) u.file u.page=none:=by
 unfold cC
 rw [aS8 _ _ hf,if_pos ⟨rfl,rfl⟩,decide_eq_false (by omega)];rfl
theorem aN5 {c:Dc} {m:Nat} {u:Us} {v:Int} (f:Nat):((c.gone m u v).fl.getD f aK).size=(c.fl.getD f aK).size∧((c.gone m u v).fl.getD f aK).blocks=(c.fl.getD f aK).blocks:=by
 show((c.fl.set u.file (dG (c.fl.getD u.file aK) _)).getD f aK).size=_∧((c.fl.set u.file (dG (c.fl.getD u.file aK) _)).getD f aK).blocks=_
 by_cases e:f=u.file
 ·subst e
  by_cases hl:u.file<c.fl.length
  ·rw [aD _ _ _ _ hl];exact⟨rfl,rfl⟩
  ·rw [fD _ _ (Nat.le_of_not_lt hl)];exact⟨rfl,rfl⟩
 ·rw [getD_set_ne _ _ _ e];exact⟨rfl,rfl⟩
theorem aML {c:Dc} (h:Ok c)(h1:c.fl.length=1) {m:Nat} {u:Us} (hm:m<c.fr.length)(hu:c.fr.getD m none=some u) {v:Int} (hv:v≤0):aA (c.gone m u v)=upd (aA c) u.page none:=by
 have hf:=(h.use m u hm hu).file
 have e0:u.file=0:=by omega
 refine aFS (fun q hq=>aJ5 h hm hu 0 q (by omega) fun e=>hq e.2) (aBH ?_)
 have :=aPX (m:=m) hf hv
 rw [e0] at this;exact this
theorem Md.ev {c:Dc} (h:Ok c)(h1:c.fl.length=1) {W D:Nat→UInt8} (k:Md c W D)(n:Int):Md (evG c n).1 W D:=by
 unfold evG
 rcases cK c n with ⟨e,hu⟩| ⟨m,u,e,rfl,m1,m2⟩
 ·rw [e];exact k
 ·rw [e]
  dsimp only
  cases hi:(pR u&&decide (u.p.d=0)) with
  |false=>exact k
  |true=>
   have hd:=of_decide_eq_true (Bool.and_eq_true_iff.1 hi).2
   have hf:=(h.use m u m1 m2).file
   have hck:=h.ck u.ten
   have e0:u.file=0:=by omega
   have hp:=h.pg_of m1 m2
   rw [e0] at hp
   show Md (c.evi m u) W D
   have hA:aA (c.evi m u)=upd (aA c) u.page none:=aML h h1 m1 m2 (v:=0- (c.ck.getD u.ten 0+1)) (by omega)
   have hB:=aN5 (c:=c) (m:=m) (u:=u) (v:=0- (c.ck.getD u.ten 0+1)) 0
   unfold Md
   rw [hA,show aH (c.evi m u)=aH c from funext fun q=>by unfold aH;exact congrArg (eU · q) hB.2,show((c.evi m u).fl.getD 0 aK).size=(c.fl.getD 0 aK).size from hB.1]
   exact Mo.ev k (jR hp) hd
theorem Md.rb {c:Dc} (h:Ok c)(h1:c.fl.length=1) {W D:Nat→UInt8} (k:Md c W D)(n s:Int):Md (rbG c n s).1 W D:=by
 unfold rbG
 rcases cK c n with ⟨e,hu⟩| ⟨m,u,e,rfl,m1,m2⟩
 ·rw [e];exact k
 ·rw [e]
  dsimp only
  cases decide ((1≤s∧s≤3)∧s.toNat &&& (u.p.v ||| u.rd)=0) with
  |false=>exact k
  |true=>exact Md.put0 (u':=aFE u (u.rd ||| s.toNat)) h h1 m1 m2 rfl k
theorem aVZ {d:ByteArray} (hd:d.size=16)(z:Nat) {i:Nat} (hi:i<16):iY ⟨(aBA d.data.toList z 16).toArray⟩ i=if z≤i then 0 else iY d i:=by
 have l:d.data.toList.length=16:=hd
 unfold iY
 rw [zA,zA]
 show((aBA d.data.toList z 16)[i]?).getD 0=_
 rw [aHX _ _ _ _ (by rw [l];exact hi),decide_eq_true hi,Bool.true_and]
 by_cases x:z≤i
 ·rw [decide_eq_true x,if_pos x];rfl
 ·rw [decide_eq_false x,if_neg x,zA];rfl
theorem Md.re {c:Dc} (h:Ok c)(h1:c.fl.length=1) {W D:Nat→UInt8} (k:Md c W D) {m:Nat} {u:Us} (m1:m<c.fr.length)(m2:c.fr.getD m none=some u) {d:ByteArray} (hd:d.size=16)(hD:∀i,i<16→iY d i=D (u.page*16+i)):Md (reG c ((m+1:Nat):Int) d true).1 W D:=by
 have ku:=h.use m u m1 m2
 have hf:=ku.file
 have e0:u.file=0:=by omega
 have hp:=h.pg_of m1 m2
 rw [e0] at hp
 unfold reG eG
 rw [rW m1 m2,show(((m+1:Nat):Int)-1).toNat=m by omega,m2]
 show Md (uR c m u d true).1 W D
 unfold uR
 cases(u.rd==0) with
 |true=>exact k
 |false=>
  rw [hd]
  refine Md.put (W:=W) (D:=D) h (by omega) hp (Mo.fill k ku.page (jR hp) ku.rd fun i hi=>?_)
  rw [aVZ hd _ hi,e0,hD i hi]
  by_cases x:(c.fl.getD 0 aK).size-u.page*16≤i
  ·rw [if_pos x,if_pos (by omega)]
  ·rw [if_neg x,if_neg (by omega)]
end Go.Proofs.YtmhapcbjjpadnaaGreat
set_option maxRecDepth 40000
namespace Go.Proofs.YtmhapcbjjpadnaaGreat
open Go Go.Sk Go.RowKit
theorem aDT {c:Dc} {f off n:Nat} {w:Bool} :∀ {j:Nat},fK c f off n w j=some []→∀k,k<j→∃m u,cC c f (off/16+k)=some (m,u)∧gL u off n (off/16+k) w=0
 |0,_,k,hk=>by omega
 |j+1,h,k,hk=>by
  rw [fK] at h
  split at h
  ·rename_i L0 m u h1 h2
   injection h with h
   cases hn:(gL u off n (off/16+j) w==0) with
   |false=>
    rw [hn,cond_false] at h
    exact absurd h (by simp)
   |true=>
    rw [hn,cond_true] at h
    subst h
    by_cases e:k=j
    ·subst e;exact⟨m,u,h2,eq_of_beq hn⟩
    ·exact aDT h1 k (by omega)
  ·cases h
theorem aRH {a b:ByteArray} (hs:a.size=b.size)(h:∀i,i<a.size→iY a i=iY b i):a=b:=by
 have e:a.data.toList=b.data.toList:=by
  have la:a.data.toList.length=a.size:=rfl
  have lb:b.data.toList.length=b.size:=rfl
  refine List.ext_getElem (by omega) fun i h1 h2=>?_
  have :=h i (by omega)
  unfold iY at this
  rw [zA,zA,zF h1,zF h2] at this
  exact this
 cases a;cases b
 congr 1
 exact Array.toList_inj.1 e
theorem Md.soi {c:Dc} (h:Ok c)(h1:c.fl.length=1) {W D:Nat→UInt8} (k:Md c W D)(e:Int)(h0:(bT c 0 e).2=0):
 Md (bT c 0 e).1 W D∧((bT c 0 e).1.fl.getD 0 aK).size=(c.fl.getD 0 aK).size∧
 (((c.fl.getD 0 aK).size:Int)<e→(c.fl.getD 0 aK).size%16≠0→aH (bT c 0 e).1 ((c.fl.getD 0 aK).size/16)=false→∃P,aA (bT c 0 e).1 ((c.fl.getD 0 aK).size/16)=some P∧∀q,(c.fl.getD 0 aK).size%16/8≤q→q<2→P.d.testBit q=true):=by
 have hsz:=(h.file 0 (by omega)).size
 unfold bT at *
 cases ht:eN (c.fl.getD 0 aK) e with
 |none=>
  refine⟨k,rfl,fun a b hH=>?_⟩
  have hH:eU (c.fl.getD 0 aK).blocks ((c.fl.getD 0 aK).size/16)=false:=hH
  unfold eN at ht
  rw [decide_eq_false (by omega),cond_false,beq_eq_false_iff_ne.2 b,cond_false,hH] at ht
  cases ht
 |some x=>
  obtain⟨p,s⟩:=x
  obtain⟨t1,t2,t3,t4,t5,t6⟩:=pM ht hsz
  have hs:s=bif decide ((c.fl.getD 0 aK).size%16<8) then 3 else 2:=by
   have ht2:=ht
   unfold eN at ht2
   rw [decide_eq_false (by omega),cond_false,beq_eq_false_iff_ne.2 t5,cond_false,←t2,t6,cond_false] at ht2
   injection ht2 with ht2
   exact(congrArg Prod.snd ht2).symm
  rw [ht] at h0
  dsimp only at h0⊢
  cases hp:cC c 0 p with
  |none=>rw [hp] at h0;cases h0
  |some x=>
   obtain⟨m,u⟩:=x
   rw [hp] at h0
   dsimp only at h0⊢
   cases hv:(gP false s u.p.v==0) with
   |false=>rw [hv] at h0;cases h0
   |true=>
    rw [cond_true]
    obtain⟨q1,q2,q3,q4,q5⟩:=bI h (by omega) hp
    have g:=(h.use m u q1 q2).pg
    refine⟨Md.put h (by omega) hp (Mo.soil k t1 (jR hp) t3 (by omega)),iT _ _ _ _,fun a b _=>⟨gM u.p s,?_,fun q hq1 hq2=>?_⟩⟩
    ·rw [←t2,aBX h (by omega) hp,dO];rfl
    ·have hsb:s.testBit q=true:=by
      by_cases x:(c.fl.getD 0 aK).size%16<8
      ·rw [hs,decide_eq_true x,cond_true];exact bB6 hq2
      ·rw [hs,decide_eq_false x,cond_false,show q=1 by omega];decide
     have hvb:=aKM t3 g.v hq2 (eq_of_beq hv) hsb
     show(u.p.d ||| (s &&& u.p.v)).testBit q=true
     rw [zE,Nat.testBit_and,hsb,hvb];simp
def wk(W:Nat→UInt8)(off:Nat)(s:ByteArray)(b:Nat):Nat→UInt8:=fun x=>if off≤x∧x<min (off+s.size) b then iY s (x-off) else W x
theorem Md.iZ {c:Dc} (h:Ok c)(h1:c.fl.length=1) {off:Nat} {s:ByteArray} (hb:off+s.size≤128) {z:Nat} {W D:Nat→UInt8} (hz:off+s.size≤z)(k0:Mo (aA c) (aH c) z W D)
 (hn:∀k,k<cnt off s.size→∃m u,cC c 0 (off/16+k)=some (m,u)∧gL u off s.size (off/16+k) true=0):∀k,k≤cnt off s.size→
  Mo (aA (iZ c 0 off s k)) (aH c) z (wk W off s ((off/16+k)*16)) D∧aH (iZ c 0 off s k)=aH c∧((iZ c 0 off s k).fl.getD 0 aK).size=(c.fl.getD 0 aK).size
 |0,_=>by
  refine⟨k0.congr (fun _ _=>rfl) (fun _ _=>rfl) (fun x=>?_) (fun _ _=>rfl),rfl,rfl⟩
  unfold wk
  rw [if_neg (by omega)]
 |k+1,hk=>by
  obtain⟨i1,i2,i3⟩:=Md.iZ h h1 hb hz k0 hn k (by omega)
  obtain⟨o1,o2,o3⟩:=pO h (f:=0) (off:=off) (s:=s) (by omega) hb k (by omega)
  obtain⟨m,u,hp,hu⟩:=hn k (by omega)
  have hp':=(o3 k (zC _)).trans hp
  have hpi:=fF (show k<cnt off s.size by omega)
  have hws:=aHE (s:=s) (off:=off) (show k<cnt off s.size by omega)
  have hc:=jF hb
  rw [_root_.Go.Proofs.YtmhapcbjjpadnaaGreat.iZ,hp']
  dsimp only
  refine⟨?_,?_,?_⟩
  ·show Mo (aA ((_root_.Go.Proofs.YtmhapcbjjpadnaaGreat.iZ c 0 off s k).put m _)) _ _ _ _
   rw [aBX o1 (by omega) hp']
   refine Mo.wr i1 (by omega) (jR hp') (by rw [hws];exact hpi.1) (by rw [hws];exact hpi.2.1) (by rw [hws];exact hu) (by rw [hws];omega) fun x=>?_
   rw [hws]
   unfold wk jG aP
   dsimp only
   generalize hq:off/16+k=p at *
   rw [show off/16+(k+1)=p+1 by omega,lW]
   have hcn:p*16<off+s.size∧off< (p+1)*16:=by
    unfold aP at hpi
    dsimp only at hpi
    omega
   by_cases x1:p*16+(max off (p*16)-p*16)≤x∧x<p*16+(max off (p*16)-p*16)+(min (off+s.size) ((p+1)*16)-max off (p*16))
   ·rw [if_pos x1,if_pos (by omega),if_pos (by omega)]
    congr 1
    omega
   ·rw [if_neg x1]
    by_cases x2:off≤x∧x<min (off+s.size) (p*16)
    ·rw [if_pos x2,if_pos (by omega)]
    ·rw [if_neg x2,if_neg (by omega)]
  ·show aH ((_root_.Go.Proofs.YtmhapcbjjpadnaaGreat.iZ c 0 off s k).put m _)=_
   rw [aKG];exact i2
  ·show(((_root_.Go.Proofs.YtmhapcbjjpadnaaGreat.iZ c 0 off s k).put m _).fl.getD 0 aK).size=_
   rw [iT];exact i3
def ovl(W:Nat→UInt8)(off:Nat)(s:ByteArray):Nat→UInt8:=fun x=>if off≤x∧x<off+s.size then iY s (x-off) else W x
theorem aFM {c:Dc} (h1:c.fl.length=1)(z:Nat):((c.sz 0 z).fl.getD 0 aK)=fsz (c.fl.getD 0 aK) z:=by
 show(c.fl.set 0 (fsz (c.fl.getD 0 aK) z)).getD 0 aK=_
 rw [aD _ _ _ _ (by omega)]
theorem Md.sz {c:Dc} (h1:c.fl.length=1) {z:Nat} {W D:Nat→UInt8} (k:Mo (aA c) (aH c) z W D):Md (c.sz 0 z) W D:=by
 unfold Md
 rw [aMM (c:=c) (d:=c.sz 0 z) fun p=>by unfold cC;rw [aFM h1];rfl,show aH (c.sz 0 z)=aH c from funext fun p=>by unfold aH;rw [aFM h1];rfl,aFM h1]
 exact k
theorem Md.wrt {c:Dc} (h:Ok c)(h1:c.fl.length=1) {W D:Nat→UInt8} (k:Md c W D) {off:Nat} {s:ByteArray} (hs:1≤s.size)(h0:(vB c 0 (off:Int) s).2=0):
 off+s.size≤128∧Md (vB c 0 (off:Int) s).1 (ovl W off s) D∧((vB c 0 (off:Int) s).1.fl.getD 0 aK).size=max (c.fl.getD 0 aK).size (off+s.size):=by
 unfold vB at *
 cases hr:jA c 0 (off:Int) s.size with
 |false=>rw [hr] at h0;cases h0
 |true=>
  obtain⟨f,off',n,e1,e2,e3,hf,hb⟩:=eC hr
  obtain rfl:off=off':=by omega
  rw [hr,cond_true] at h0
  rw [cond_true]
  rw [show(0:Int).toNat=0 from rfl,zD] at *
  have hb:off+s.size≤128:=by omega
  refine⟨hb,?_⟩
  unfold lM at *
  rw [beq_eq_false_iff_ne.2 (show s.size≠0 by omega),cond_false] at h0⊢
  cases hu:fK c 0 off s.size true (cnt off s.size) with
  |none=>rw [hu] at h0;cases h0
  |some L=>
   rw [hu] at h0
   dsimp only at h0⊢
   cases hg:((bT c 0 ((off+s.size:Nat):Int)).2==4) with
   |true=>rw [hg] at h0;cases h0
   |false=>
    rw [hg,cond_false] at h0
    rw [cond_false]
    cases hL:(L.isEmpty&&(bT c 0 ((off+s.size:Nat):Int)).2==0) with
    |false=>rw [hL] at h0;cases h0
    |true=>
     rw [cond_true]
     obtain⟨hL1,hL2⟩:=Bool.and_eq_true_iff.1 hL
     have hL1:L=[]:=List.isEmpty_iff.1 hL1
     subst hL1
     obtain⟨s1,s2,s3⟩:=k.soi h h1 _ (eq_of_beq hL2)
     have hps:=fun p=>aXJ h ((off+s.size:Nat):Int) (show 0<c.fl.length by omega) p
     obtain⟨o1,o2,o3,o4⟩:=pL h ((off+s.size:Nat):Int) (show 0<c.fl.length by omega)
     generalize(bT c 0 ((off+s.size:Nat):Int)).1=d at *
     have hd1:d.fl.length=1:=o2.trans h1
     have hnn:=aDT hu
     have g:Mo (aA d) (aH d) (max (c.fl.getD 0 aK).size (off+s.size)) W D:=by
      refine Mo.grow (z:=(c.fl.getD 0 aK).size) (by rw [←s2];exact s1) (by omega) fun a b hH=>s3 (by omega) b hH
     obtain⟨w1,w2,w3⟩:=Md.iZ o1 hd1 hb (by omega) g (fun j hj=>by
      obtain⟨m,u,p1,p2⟩:=hnn j hj
      have e:=hps (off/16+j)
      rw [p1] at e
      cases hq:cC d 0 (off/16+j) with
      |none=>rw [hq] at e;cases e
      |some x=>
       rw [hq] at e
       injection e with e
       have e:x.2.p.v=u.p.v:=congrArg Prod.snd e
       refine⟨x.1,x.2,rfl,?_⟩
       unfold gL mH at *
       rw [e];exact p2) (cnt off s.size) (zC _)
     have hwl:=(pO o1 (f:=0) (off:=off) (s:=s) (by omega) hb (cnt off s.size) (zC _)).2.1
     have hcn:off+s.size≤(off/16+cnt off s.size)*16:=by
      unfold cnt aCA
      rw [decide_eq_false (by omega),cond_false];omega
     rw [w3,s2]
     refine⟨Md.sz (hwl.trans hd1) ?_,by rw [aFM (hwl.trans hd1)];rfl⟩
     rw [w2]
     refine w1.congr (fun _ _=>rfl) (fun _ _=>rfl) (fun x=>?_) (fun _ _=>rfl)
     unfold ovl wk
     by_cases x1:off≤x∧x<off+s.size
     ·rw [if_pos x1,if_pos (by omega)]
     ·rw [if_neg x1,if_neg (by omega)]
def zk(W:Nat→UInt8)(off n b:Nat):Nat→UInt8:=fun x=>if off≤x∧x<min (off+n) b then 0 else W x
theorem bE9 {c:Dc} (h1:c.fl.length=1)(p:Nat):((c.bl 0 p).fl.getD 0 aK)=fbl (c.fl.getD 0 aK) (qT (c.fl.getD 0 aK).blocks p):=by
 show(c.fl.set 0 (fbl (c.fl.getD 0 aK) (qT (c.fl.getD 0 aK).blocks p))).getD 0 aK=_
 rw [aD _ _ _ _ (by omega)]
theorem bDK {c:Dc} (h:Ok c)(h1:c.fl.length=1) {off n p:Nat} (hp:p<8)(hw:pW c 0 off n p=true):
 aA (sH c 0 off n p)=upd (aA c) p none∧∀q,q<8→aH (sH c 0 off n p) q=upd (aH c) p true q:=by
 have hbl:=(h.file 0 (by omega)).blocks
 unfold sH
 rw [hw,cond_true]
 have key:∀d:Dc,d.fl.length=1→(d.fl.getD 0 aK).blocks=(c.fl.getD 0 aK).blocks→aA d=upd (aA c) p none→aA (d.bl 0 p)=upd (aA c) p none∧∀q,q<8→aH (d.bl 0 p) q=upd (aH c) p true q:=fun d k1 k2 k3=>by
  refine⟨?_,fun q hq=>?_⟩
  ·rw [←k3];exact aMM fun q=>aLL (by omega)
  ·unfold aH
   rw [bE9 k1]
   show eU (qT (d.fl.getD 0 aK).blocks p) q=_
   rw [k2,aSB hbl hp hq];rfl
 cases hg:cC c 0 p with
 |none=>
  refine key (c.e0 0 p) (by show(c.fl.set 0 _).length=1;rw [List.length_set];exact h1) ?_ ?_
  ·show((c.fl.set 0 (dG (c.fl.getD 0 aK) _)).getD 0 aK).blocks=_
   rw [aD _ _ _ _ (by omega)];rfl
  ·refine aFS (fun q hq=>aTX (by omega) hq) (aBH ?_)
   have e:((c.e0 0 p).fl.getD 0 aK).E p=(0,0):=by
    show((c.fl.set 0 (dG (c.fl.getD 0 aK) (dA (c.fl.getD 0 aK).E p (0,0)))).getD 0 aK).E p=_
    rw [aD _ _ _ _ (by omega),dK,cR]
   unfold cC
   rw [e];rfl
 |some x=>
  obtain⟨m,u⟩:=x
  obtain⟨q1,q2,q3,q4,q5⟩:=bI h (by omega) hg
  refine key (c.gone m u 0) (by show(c.fl.set _ _).length=1;rw [List.length_set];exact h1) (aN5 0).2 ?_
  rw [aML h h1 q1 q2 (Int.le_refl 0),q4]
theorem Md.wip {c:Dc} (h:Ok c)(h1:c.fl.length=1) {off n:Nat} (hb:off+n≤128) {W D:Nat→UInt8} (k0:Md c W D)(hz:n=0∨off+n≤(c.fl.getD 0 aK).size)(hm:(eI c 0 off n (cnt off n)).2.2=true):∀k,k≤cnt off n→
 Md (pY c 0 off n k) (zk W off n ((off/16+k)*16)) D∧∀j,j<k→pW c 0 off n (off/16+j)=true→aA (pY c 0 off n k) (off/16+j)=none∧aH (pY c 0 off n k) (off/16+j)=true
 |0,_=>by
  refine⟨Mo.congr k0 (fun _ _=>rfl) (fun _ _=>rfl) (fun x=>?_) (fun _ _=>rfl),fun j hj=>by omega⟩
  unfold zk
  rw [if_neg (by omega)]
 |k+1,hk=>by
  obtain⟨i1,i2⟩:=Md.wip h h1 hb k0 hz hm k (by omega)
  obtain⟨o1,o2,o3,o4⟩:=jU h (f:=0) (off:=off) (n:=n) (by omega) hb k (by omega)
  have hpi:=fF (show k<cnt off n by omega)
  have hc:=jF hb
  have hpk:=o4 k (zC _)
  have hmay:=aC9 hm k (by omega)
  have hn0:n≠0:=fun e=>by
   unfold cnt at hk
   rw [e] at hk
   exact absurd hk (by show ¬k+1≤0;omega)
  have hzz:off+n≤(c.fl.getD 0 aK).size:=by omega
  have hout:=k0.out
  rw [pY]
  generalize pY c 0 off n k=d at *
  have hd1:d.fl.length=1:=o2.trans h1
  have hiw:∀p,pW d 0 off n p=pW c 0 off n p:=fun p=>aIN o3
  cases hw:pW c 0 off n (off/16+k) with
  |true=>
   obtain⟨a1,a2⟩:=bDK o1 hd1 (off:=off) (n:=n) (show off/16+k<8 by omega) (by rw [hiw];exact hw)
   have a3:=(aOP o1 (f:=0) (off:=off) (n:=n) (p:=off/16+k) (by omega) (by omega) hpi.1).2.2.1
   refine⟨?_,fun j hj hjw=>?_⟩
   ·unfold Md
    rw [a1,a3,o3]
    have m2:Mo (upd (aA d) (off/16+k) none) (upd (aH d) (off/16+k) true) (c.fl.getD 0 aK).size _ D:=Mo.wipe (p:=off/16+k) (by rw [←o3];exact i1) (fun x=>rfl)
    refine m2.congr (fun _ _=>rfl) a2 (fun x=>?_) (fun _ _=>rfl)
    unfold zk
    unfold pW aP at hw
    dsimp only at hw
    generalize hq:off/16+k=p at *
    rw [show off/16+(k+1)=p+1 by omega]
    by_cases e1:((max off (p*16)-p*16:Nat):Int)=0
    ·rw [beq_iff_eq.2 e1,cond_true] at hw
     have e2:=eq_of_beq hw
     by_cases x1:p*16≤x∧x<p*16+16
     ·rw [if_pos x1]
      by_cases x2:off≤x∧x<min (off+n) ((p+1)*16)
      ·rw [if_pos x2]
      ·rw [if_neg x2]
       exact hout x (by omega)
     ·rw [if_neg x1]
      by_cases x2:off≤x∧x<min (off+n) (p*16)
      ·rw [if_pos x2,if_pos (by omega)]
      ·rw [if_neg x2,if_neg (by omega)]
    ·rw [beq_eq_false_iff_ne.2 e1] at hw;cases hw
   ·rw [a1,a2 _ (by omega)]
    by_cases e:j=k
    ·subst e;rw [dO,dO];exact⟨rfl,rfl⟩
    ·rw [cS _ _ (by omega),cS _ _ (by omega)]
     exact i2 j (by omega) hjw
  |false=>
   obtain⟨m,u,g1,g2⟩:=aIU hmay hw
   have hp':=hpk.trans g1
   have hzs:=kK (aP (off/16+k) off n).2
   unfold sH
   rw [hiw,hw,cond_false,hp']
   dsimp only
   refine⟨Md.put o1 (by omega) hp' ?_,fun j hj hjw=>?_⟩
   ·refine Mo.wr (by rw [show(d.fl.getD 0 aK).size=(c.fl.getD 0 aK).size from o3,←o3];exact i1) (by omega) (jR hp') (by rw [hzs];exact hpi.1) (by rw [hzs];exact hpi.2.1) (by rw [hzs];exact g2) (by rw [hzs];omega) fun x=>?_
    rw [hzs,aFX]
    unfold zk aP
    dsimp only
    generalize hq:off/16+k=p at *
    rw [show off/16+(k+1)=p+1 by omega]
    have hcn:p*16<off+n∧off< (p+1)*16:=by
     unfold aP at hpi
     dsimp only at hpi
     omega
    by_cases x1:p*16+(max off (p*16)-p*16)≤x∧x<p*16+(max off (p*16)-p*16)+(min (off+n) ((p+1)*16)-max off (p*16))
    ·rw [if_pos x1,if_pos (by omega)]
    ·rw [if_neg x1]
     by_cases x2:off≤x∧x<min (off+n) (p*16)
     ·rw [if_pos x2,if_pos (by omega)]
     ·rw [if_neg x2,if_neg (by omega)]
   ·have hjk:j≠k:=fun e=>by
     subst e
     rw [hw] at hjw;cases hjw
    rw [aBX o1 (by omega) hp',aKG,cS _ _ (by omega)]
    exact i2 j (by omega) hjw
def zro(W:Nat→UInt8)(off n:Nat):Nat→UInt8:=fun x=>if off≤x∧x<off+n then 0 else W x
theorem aG1(off n:Nat):n=0∨off+n≤(off/16+cnt off n)*16:=by
 by_cases e:n=0
 ·exact .inl e
 ·unfold cnt aCA
  rw [decide_eq_false e,cond_false]
  exact .inr (by omega)
theorem Md.pun {c:Dc} (h:Ok c)(h1:c.fl.length=1) {W D:Nat→UInt8} (k:Md c W D) {off n:Nat} (h0:(uQ c 0 (off:Int) (n:Int)).2=0):
 off+n≤128∧Md (uQ c 0 (off:Int) (n:Int)).1 (zro W off (bY c 0 off n)) D∧((uQ c 0 (off:Int) (n:Int)).1.fl.getD 0 aK).size=(c.fl.getD 0 aK).size:=by
 unfold uQ at *
 cases hr:jA c 0 (off:Int) (n:Int) with
 |false=>rw [hr] at h0;cases h0
 |true=>
  obtain⟨f,off',n',e1,e2,e3,hf,hb⟩:=eC hr
  obtain rfl:off=off':=by omega
  obtain rfl:n=n':=by omega
  rw [hr,cond_true] at h0
  rw [cond_true]
  rw [show(0:Int).toNat=0 from rfl,zD,zD] at *
  refine⟨hb,?_⟩
  have hrd:bY c 0 off n≤n∧(bY c 0 off n=0∨off+bY c 0 off n≤(c.fl.getD 0 aK).size):=by unfold bY;omega
  unfold aLN at *
  generalize bY c 0 off n=r at *
  cases hm:(eI c 0 off r (cnt off r)).2.2 with
  |false=>rw [hm] at h0;cases h0
  |true=>
   rw [cond_true]
   obtain⟨w1,-⟩:=Md.wip h h1 (off:=off) (n:=r) (by omega) k hrd.2 hm _ (zC _)
   refine⟨Mo.congr w1 (fun _ _=>rfl) (fun _ _=>rfl) (fun x=>?_) (fun _ _=>rfl),(jU h (f:=0) (off:=off) (n:=r) (by omega) (by omega) _ (zC _)).2.2.1⟩
   have hcv:=aG1 off r
   unfold zro zk
   by_cases x1:off≤x∧x<off+r
   ·rw [if_pos x1,if_pos (by omega)]
   ·rw [if_neg x1,if_neg (by omega)]
theorem Md.trn {c:Dc} (h:Ok c)(h1:c.fl.length=1) {W D:Nat→UInt8} (k:Md c W D) {z:Nat} (h0:(uU c 0 (z:Int)).2=0):
 z≤128∧Md (uU c 0 (z:Int)).1 (fun x=>if z≤x then 0 else W x) D∧((uU c 0 (z:Int)).1.fl.getD 0 aK).size=z:=by
 unfold uU at *
 cases hr:jA c 0 (z:Int) 0 with
 |false=>rw [hr] at h0;cases h0
 |true=>
  obtain⟨f,off',n',e1,e2,e3,hf,hb⟩:=eC hr
  obtain rfl:z=off':=by omega
  rw [hr,cond_true] at h0
  rw [cond_true]
  rw [show(0:Int).toNat=0 from rfl,zD] at *
  have hz1:z≤128:=by omega
  refine⟨hz1,?_⟩
  have hszc:=(h.file 0 (by omega)).size
  unfold aM5 at *
  cases hg:((bT c 0 (z:Int)).2==0) with
  |false=>
   rw [hg,cond_false] at h0
   exact absurd h0 (by simpa using hg)
  |true=>
   rw [hg,cond_true] at h0
   rw [cond_true]
   cases hm:(eI c 0 z (bY c 0 z (128-z)) (cnt z (bY c 0 z (128-z)))).2.2 with
   |false=>rw [hm] at h0;cases h0
   |true=>
    rw [cond_true]
    clear h0
    obtain⟨s1,s2,s3⟩:=k.soi h h1 _ (eq_of_beq hg)
    obtain⟨o1,o2,o3,o4⟩:=pL h (z:Int) (show 0<c.fl.length by omega)
    by_cases hz:z≤(c.fl.getD 0 aK).size
    ·have e:bT c 0 (z:Int)=(c,0):=by
      unfold bT eN
      rw [decide_eq_true (by omega)];rfl
     rw [e]
     have er:bY c 0 z (128-z)=(c.fl.getD 0 aK).size-z:=by unfold bY;omega
     rw [er] at hm⊢
     obtain⟨w1,w2⟩:=Md.wip h h1 (off:=z) (n:=(c.fl.getD 0 aK).size-z) (by omega) k (by omega) hm _ (zC _)
     obtain⟨q1,q2,q3,q4⟩:=jU h (f:=0) (off:=z) (n:=(c.fl.getD 0 aK).size-z) (by omega) (by omega) _ (zC _)
     have hcv:=aG1 z ((c.fl.getD 0 aK).size-z)
     have hcn:cnt z ((c.fl.getD 0 aK).size-z)=if(c.fl.getD 0 aK).size-z=0 then 0 else(z+((c.fl.getD 0 aK).size-z)+15)/16-z/16:=by
      unfold cnt aCA
      by_cases x:(c.fl.getD 0 aK).size-z=0
      ·rw [decide_eq_true x,if_pos x];rfl
      ·rw [decide_eq_false x,if_neg x];rfl
     refine⟨Md.sz (q2.trans h1) ?_,by rw [aFM (q2.trans h1)];rfl⟩
     have hout:=k.out
     have w1:Mo (aA (pY c 0 z ((c.fl.getD 0 aK).size-z) (cnt z ((c.fl.getD 0 aK).size-z)))) (aH (pY c 0 z ((c.fl.getD 0 aK).size-z) (cnt z ((c.fl.getD 0 aK).size-z)))) (c.fl.getD 0 aK).size (fun x=>if z≤x then 0 else W x) D:=by
      unfold Md at w1
      rw [q3] at w1
      refine Mo.congr w1 (fun _ _=>rfl) (fun _ _=>rfl) (fun x=>?_) (fun _ _=>rfl)
      unfold zk
      by_cases x1:z≤x
      ·rw [if_pos x1]
       by_cases x2:z≤x∧x<min (z+((c.fl.getD 0 aK).size-z)) ((z/16+cnt z ((c.fl.getD 0 aK).size-z))*16)
       ·rw [if_pos x2]
       ·rw [if_neg x2];exact(hout x (by omega)).symm
      ·rw [if_neg x1,if_neg (by omega)]
     refine w1.shr hz (fun x hx=>if_pos hx) fun p hp hpz=>?_
     by_cases hps:(c.fl.getD 0 aK).size≤p*16
     ·refine⟨w1.beh p hp hps,fun P hP=>?_⟩
      by_cases hd:P.d=0
      ·exact hd
      ·have :=w1.drt p P hp hP hd;omega
     ·have hne:(c.fl.getD 0 aK).size-z≠0:=by omega
      rw [if_neg hne] at hcn
      obtain⟨j,rfl⟩:∃j,p=z/16+j:=⟨p-z/16,by omega⟩
      obtain⟨a1,a2⟩:=w2 j (by omega) (by
       unfold pW aP
       dsimp only
       rw [beq_iff_eq.2 (by omega),cond_true]
       exact beq_iff_eq.2 (by omega))
      exact⟨a2,fun P hP=>by rw [a1] at hP;cases hP⟩
    ·have er:bY (bT c 0 (z:Int)).1 0 z (128-z)=0:=by unfold bY;rw [s2];omega
     rw [er,show cnt z 0=0 from rfl,show pY (bT c 0 (z:Int)).1 0 z 0 0=(bT c 0 (z:Int)).1 from rfl]
     refine⟨Md.sz (o2.trans h1) ?_,by rw [aFM (o2.trans h1)];rfl⟩
     have g:Mo (aA (bT c 0 (z:Int)).1) (aH (bT c 0 (z:Int)).1) z W D:=by
      refine Mo.grow (z:=(c.fl.getD 0 aK).size) (by rw [←s2];exact s1) (by omega) fun a b hH=>s3 (by omega) b hH
     refine g.congr (fun _ _=>rfl) (fun _ _=>rfl) (fun x=>?_) (fun _ _=>rfl)
     by_cases x1:z≤x
     ·rw [if_pos x1];exact(g.out x x1).symm
     ·rw [if_neg x1]
theorem Md.mY {c:Dc} (h:Ok c)(h1:c.fl.length=1) {W D:Nat→UInt8} (k0:Md c W D) {off n:Nat} (hb:off+n≤128)
 (hn:∀k,k<cnt off n→∃m u,cC c 0 (off/16+k)=some (m,u)∧gL u off n (off/16+k) false=0):∀k,k≤cnt off n→
  (mY c 0 off n k).2.size=min (off+n) ((off/16+k)*16)-off∧∀j,j< (mY c 0 off n k).2.size→iY (mY c 0 off n k).2 j=W (off+j)
 |0,_=>by
  have e:(_root_.Go.Proofs.YtmhapcbjjpadnaaGreat.mY c 0 off n 0).2.size=0:=rfl
  rw [e]
  exact⟨by omega,fun j hj=>by omega⟩
 |k+1,hk=>by
  obtain⟨i1,i2⟩:=Md.mY h h1 k0 hb hn k (by omega)
  obtain⟨m,u,hp,hu⟩:=hn k (by omega)
  have hpi:=fF (show k<cnt off n by omega)
  have hc:=jF hb
  obtain⟨q1,q2,q3,q4,q5⟩:=bI h (by omega) hp
  have g:=(h.use m u q1 q2).pg.size
  have hrd:=fun i=>Mo.rd k0 (p:=off/16+k) (by omega) (jR hp) hpi.1 hu (i:=i)
  rw [_root_.Go.Proofs.YtmhapcbjjpadnaaGreat.mY,hp]
  dsimp only
  generalize(_root_.Go.Proofs.YtmhapcbjjpadnaaGreat.mY c 0 off n k).2=S at *
  have hpe:(aP (off/16+k) off n)=(max off ((off/16+k)*16)- (off/16+k)*16,min (off+n) ((off/16+k+1)*16)-max off ((off/16+k)*16)):=rfl
  rw [hpe] at hpi hrd⊢
  dsimp only at *
  generalize hq:off/16+k=p at *
  rw [show off/16+(k+1)=p+1 by omega]
  have hsz:(S++u.p.b.extract (max off (p*16)-p*16) (max off (p*16)-p*16+(min (off+n) ((p+1)*16)-max off (p*16)))).size=min (off+n) ((p+1)*16)-off:=by
   rw [fI,cA,g,i1];omega
  refine⟨hsz,fun j hj=>?_⟩
  rw [hsz] at hj
  rw [rJ]
  by_cases x:j<S.size
  ·rw [if_pos x];exact i2 j x
  ·rw [if_neg x,lW,if_pos (by omega),hrd _ (by omega) (by omega)]
   congr 1
   omega
theorem aFV {c:Dc} (h1:c.fl.length=1)(p:Nat):((c.blo 0 p).fl.getD 0 aK)=fbl (c.fl.getD 0 aK) (onB (c.fl.getD 0 aK).blocks p):=by
 show(c.fl.set 0 (fbl (c.fl.getD 0 aK) (onB (c.fl.getD 0 aK).blocks p))).getD 0 aK=_
 rw [aD _ _ _ _ (by omega)]
theorem Md.wtn {c:Dc} (h:Ok c)(h1:c.fl.length=1) {W D D':Nat→UInt8} (k:Md c W D) {m:Nat} {u:Us} (m1:m<c.fr.length)(m2:c.fr.getD m none=some u)(hd:u.p.d≠0)
 (hD:∀q i,q<8→i<16→D' (q*16+i)=if q=u.page∧(aH c u.page=true∨u.p.d.testBit (i/8)=true) then iY u.p.b i else D (q*16+i)):
 Md ((c.put m (cD u ⟨u.p.b,u.p.v,0⟩)).blo 0 u.page) W D':=by
 have ku:=h.use m u m1 m2
 have e0:u.file=0:=by have :=ku.file;omega
 have hp:=h.pg_of m1 m2
 rw [e0] at hp
 have hl:(c.put m (cD u ⟨u.p.b,u.p.v,0⟩)).fl.length=1:=by rw [mJ];exact h1
 have hbl:=(h.file 0 (by omega)).blocks
 have hA:aA ((c.put m (cD u ⟨u.p.b,u.p.v,0⟩)).blo 0 u.page)=upd (aA c) u.page (some ⟨u.p.b,u.p.v,0⟩):=by
  rw [←show aA (c.put m (cD u ⟨u.p.b,u.p.v,0⟩))=upd (aA c) u.page (some ⟨u.p.b,u.p.v,0⟩) from aBX h (by omega) hp]
  exact aMM fun q=>by unfold cC;rw [aFV hl];rfl
 unfold Md
 rw [hA,aFV hl,show(fbl ((c.put m (cD u ⟨u.p.b,u.p.v,0⟩)).fl.getD 0 aK) (onB ((c.put m (cD u ⟨u.p.b,u.p.v,0⟩)).fl.getD 0 aK).blocks u.page)).size=(c.fl.getD 0 aK).size from iT _ _ _ _]
 have m3:=Mo.wtn k ku.page (jR hp) hd (D':=fun x=>if x/16=u.page∧(aH c u.page=true∨u.p.d.testBit (x%16/8)=true) then iY u.p.b (x%16) else D x) (fun q i hi=>by
  rw [show(q*16+i)/16=q by omega,show(q*16+i)%16=i by omega])
 refine m3.congr (fun _ _=>rfl) (fun q hq=>?_) (fun _=>rfl) (fun x hx=>?_)
 ·unfold aH
  rw [aFV hl]
  show eU (onB ((c.put m _).fl.getD 0 aK).blocks u.page) q=_
  rw [aO2,aWQ hbl ku.page hq];rfl
 ·have e:=hD (x/16) (x%16) (by omega) (by omega)
  rw [show x/16*16+x%16=x by omega] at e
  exact e
end Go.Proofs.YtmhapcbjjpadnaaGreat
