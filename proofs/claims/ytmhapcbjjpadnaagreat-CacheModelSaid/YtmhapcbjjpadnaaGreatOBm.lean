/- Caches. -/
import Derived.Test.YtmhapcbjjpadnaaGreatOAm
import Derived.Test.YtmhapcbjjpadnaaGreatGUm
import Derived.Test.YtmhapcbjjpadnaaGreatK8m
set_option linter.unusedSimpArgs false
set_option linter.unusedVariables false
open Int renaming toNat_natCast→zA
set_option linter.constructorNameAsVariable false
set_option maxRecDepth 40000
namespace Go.Proofs.YtmhapcbjjpadnaaGreat
open Go Go.Sk Go.RowKit
theorem aFW {b:ByteArray} {x:Nat} (h:b.size≤x):iY b x=0:=by
 have l:b.data.toList.length=b.size:=rfl
 unfold iY
 rw [List.getD_eq_getElem?_getD,List.getElem?_eq_none (by omega)];rfl
def uT(w:ByteArray)(n:Nat):ByteArray:=if n≤w.size then w.extract 0 n else w++zB (n-w.size)
theorem kN(w:ByteArray)(n:Nat):(uT w n).size=n:=by
 unfold uT
 split
 ·rw [cA];omega
 ·rw [fI,kK];omega
theorem aBJ(w:ByteArray)(n x:Nat):iY (uT w n) x=if x<n then iY w x else 0:=by
 unfold uT
 split
 ·rw [lW,Nat.sub_zero,Nat.zero_add]
 ·rw [rJ,aFX]
  by_cases h1:x<w.size
  ·rw [if_pos h1,if_pos (by omega)]
  ·rw [if_neg h1,aFW (b:=w) (by omega)];split <;> rfl
def aDH(w:ByteArray)(off:Nat)(s:ByteArray):ByteArray:=(uT w (max w.size (off+s.size))).extract 0 off++s++(uT w (max w.size (off+s.size))).extract (off+s.size) (max w.size (off+s.size))
theorem aFC(w:ByteArray)(off:Nat)(s:ByteArray):(aDH w off s).size=max w.size (off+s.size):=by
 unfold aDH
 rw [fI,fI,cA,cA,kN];omega
theorem aMQ(w:ByteArray)(off:Nat)(s:ByteArray)(x:Nat):iY (aDH w off s) x=ovl (iY w) off s x:=by
 unfold aDH ovl
 rw [rJ,rJ,fI,cA,lW,lW,aBJ,aBJ,kN]
 by_cases h1:x<off
 ·rw [if_pos (by omega),if_pos (by omega),if_pos (by omega),if_pos (by omega),if_neg (by omega),Nat.zero_add]
 ·by_cases h2:x<off+s.size
  ·rw [if_pos (by omega),if_neg (by omega),if_pos (by omega),show x- (min off (max w.size (off+s.size))-0)=x-off by omega]
  ·rw [if_neg (by omega),if_neg (show ¬(off≤x∧x<off+s.size) by omega),show off+s.size+(x- (min off (max w.size (off+s.size))-0+s.size))=x by omega]
   by_cases h3:x<max w.size (off+s.size)
   ·rw [if_pos (by omega),if_pos h3]
   ·rw [if_neg (by omega),aFW (b:=w) (by omega)]
theorem aOC:∀n:Nat,Lib.repeatL [(0:UInt8)] n=List.replicate n 0
 |0=>rfl
 |n+1=>by
  show [(0:UInt8)]++Lib.repeatL [(0:UInt8)] n=_
  rw [aOC n];rfl
theorem bCB(n:Nat)(h:n≤128):aQ Tryz.prog 158 [] [.str ⟨#[0]⟩,.int .i64 (n:Int)] (.str (zB n)) []:=by
 have e:aY1 ⟨#[0]⟩ n=zB n:=by
  show(⟨(Lib.repeatL [(0:UInt8)] n).toArray⟩:ByteArray)=_
  rw [aOC];rfl
 rw [←e]
 exact aT5 ⟨#[0]⟩ n (by omega) (by show 1*n≤_;omega)
theorem aT9(w:ByteArray)(h:w.size≤128):aQ Tryz.prog 180 [] [.str w] (.bool false) []:=by
 refine bM (ob0:= []) [] Tryz.func180 rfl rfl rfl rfl ?_
 exact eR
theorem aTA(n:Nat)(h:n≤128):aQ Tryz.prog 181 [] [.int .i64 (n:Int)] (.bool false) []:=by
 refine bM (ob0:= []) [] Tryz.func181 rfl rfl rfl rfl ?_
 exact eR
theorem aTB(w:ByteArray)(hw:w.size≤128)(n:Nat)(hn:n≤128):aQ Tryz.prog 183 [] [.str w,.int .i64 (n:Int)] (.str (uT w n)) []:=by
 unfold uT
 by_cases h:n≤w.size
 ·rw [if_pos h]
  refine bM (ob0:= []) [] Tryz.func183 rfl rfl rfl rfl ?_
  exact eR
 ·rw [if_neg h]
  have k158:=bCB (n-w.size) (by omega)
  have hz:=kK (n-w.size)
  generalize zB (n-w.size)=Z at *
  refine bM (ob0:= []) [] Tryz.func183 rfl rfl rfl rfl ?_
  exact eR
set_option maxHeartbeats 1000000 in
theorem aZQ(w:ByteArray)(hw:w.size≤128)(off:Nat)(s:ByteArray)(hb:off+s.size≤128):aQ Tryz.prog 182 [] [.str w,.int .i64 (off:Int),.str s] (.str (aDH w off s)) []:=by
 have k183:=aTB w hw (max w.size (off+s.size)) (by omega)
 unfold aDH
 have hz:=kN w (max w.size (off+s.size))
 generalize uT w (max w.size (off+s.size))=Z at *
 have e1:(Z.extract 0 off).size=off:=by rw [cA];omega
 have e2:(Z.extract 0 off++s).size=off+s.size:=by rw [fI];omega
 have e3:(Z.extract (off+s.size) Z.size).size=Z.size- (off+s.size):=by rw [cA];omega
 rw [←hz]
 refine bM (ob0:= []) [] Tryz.func182 rfl rfl rfl rfl ?_
 exact eR
theorem bJE(w:ByteArray)(hw:w.size≤128)(off:Nat)(s:ByteArray)(h1:1≤s.size)(hb:off+s.size≤128):aQ Tryz.prog 76 [] [.str w,.int .i64 (off:Int),.str s] (.tup [.str (aDH w off s),.int .i64 0]) []:=by
 have k180:=aT9 w hw
 have k181:=aTA off (by omega)
 have k182:=aZQ w hw off s hb
 have hse:=aJU (s:=s) (by omega)
 generalize aDH w off s=Z at *
 refine bM (ob0:= []) [] Tryz.func76 rfl rfl rfl rfl ?_
 refine Wy ?_
 rw [hse]
 exact eR
theorem bJF(w:ByteArray)(hw:w.size≤128)(n:Nat)(hn:n≤128):aQ Tryz.prog 77 [] [.str w,.int .i64 (n:Int)] (.tup [.str (uT w n),.int .i64 0]) []:=by
 have k180:=aT9 w hw
 have k181:=aTA n hn
 have k183:=aTB w hw n hn
 generalize uT w n=Z at *
 refine bM (ob0:= []) [] Tryz.func77 rfl rfl rfl rfl ?_
 exact eR
def aLM(w:ByteArray)(off n:Nat):ByteArray:=if min n (w.size-off)=0 then w else aDH w off (zB (min n (w.size-off)))
theorem aQ0(w:ByteArray)(off n:Nat):(aLM w off n).size=w.size:=by
 unfold aLM
 split
 ·rfl
 ·rw [aFC,kK];omega
theorem aW1(w:ByteArray)(off n x:Nat):iY (aLM w off n) x=zro (iY w) off (min n (w.size-off)) x:=by
 unfold aLM zro
 split
 ·rename_i h
  rw [h,if_neg (by omega)]
 ·rw [aMQ]
  unfold ovl
  rw [kK,aFX]
theorem bJG(w:ByteArray)(hw:w.size≤128)(off n:Nat)(hb:off+n≤128):aQ Tryz.prog 78 [] [.str w,.int .i64 (off:Int),.int .i64 (n:Int)] (.tup [.str (aLM w off n),.int .i64 0]) []:=by
 have k180:=aT9 w hw
 have k181:=aTA off (by omega)
 unfold aLM
 by_cases h:min n (w.size-off)=0
 ·rw [if_pos h]
  have h2:n=0∨w.size≤off:=by omega
  refine bM (ob0:= []) [] Tryz.func78 rfl rfl rfl rfl ?_
  exact eR
 ·rw [if_neg h]
  have k183:=aTB ⟨#[]⟩ (by decide) (min n (w.size-off)) (by omega)
  have k182:=aZQ w hw off (uT ⟨#[]⟩ (min n (w.size-off))) (by rw [kN];omega)
  rw [show uT ⟨#[]⟩ (min n (w.size-off))=zB (min n (w.size-off)) from aRH (by rw [kN,kK]) fun i hi=>by rw [aBJ,aFX];split <;> rfl] at k183 k182
  generalize aDH w off (zB (min n (w.size-off)))=Z at *
  generalize zB (min n (w.size-off))=Y at *
  refine bM (ob0:= []) [] Tryz.func78 rfl rfl rfl rfl ?_
  exact eR
def aJD(w:ByteArray)(off n:Nat):ByteArray:=if w.size≤off then⟨#[]⟩ else w.extract off (off+min n (w.size-off))
theorem aQ6(w:ByteArray)(off n:Nat):(aJD w off n).size=min n (w.size-off):=by
 unfold aJD
 split
 ·show 0=_;omega
 ·rw [cA];omega
theorem aW2(w:ByteArray)(off n:Nat) {j:Nat} (hj:j<min n (w.size-off)):iY (aJD w off n) j=iY w (off+j):=by
 unfold aJD
 rw [if_neg (by omega),lW,if_pos (by omega)]
theorem bJI(w:ByteArray)(hw:w.size≤128)(off n:Nat)(ho:off≤128)(hn:n≤128):aQ Tryz.prog 80 [] [.str w,.int .i64 (off:Int),.int .i64 (n:Int)] (.tup [.str (aJD w off n),.int .i64 0]) []:=by
 unfold aJD
 by_cases h:w.size≤off
 ·rw [if_pos h]
  refine bM (ob0:= []) [] Tryz.func80 rfl rfl rfl rfl ?_
  exact eR
 ·rw [if_neg h]
  refine bM (ob0:= []) [] Tryz.func80 rfl rfl rfl rfl ?_
  exact eR
end Go.Proofs.YtmhapcbjjpadnaaGreat
set_option maxRecDepth 40000
namespace Go.Proofs.YtmhapcbjjpadnaaGreat
open Go Go.Sk Go.RowKit
theorem bJM(c:Dc)(h:Ok c)(f off n:Int):∃a:Dc,aQ Tryz.prog 62 [] [.agg c.c,.int .i64 f,.int .i64 off,.int .i64 n] (.tup [.agg a.c,.int .i64 (uQ c f off n).2]) []∧kI a (uQ c f off n).1:=by
 have k62:=bJA c h f off n
 unfold aU0 at k62
 unfold uQ
 cases hr:jA c f off n with
 |false=>
  rw [hr] at k62
  exact⟨_,k62,.x c⟩
 |true=>
  rw [hr] at k62
  obtain⟨f,off,n,rfl,rfl,rfl,hf,hb⟩:=eC hr
  rw [cond_true] at k62⊢
  simp only [zA] at k62⊢
  have hrd:bY c f off n≤n:=by unfold bY;omega
  have s:=vA (kI.x c) h hf (off:=off) (n:=bY c f off n) (by omega) _ (Nat.le_refl _)
  unfold bCW at k62
  unfold aLN
  cases hm:(eI c f off (bY c f off n) (cnt off (bY c f off n))).2.2 with
  |true=>
   rw [hm] at k62
   exact⟨_,k62,s⟩
  |false=>
   rw [hm] at k62
   exact⟨_,k62,.x c⟩
theorem bK3(c:Dc)(h:Ok c)(f z:Int):∃a:Dc,aQ Tryz.prog 64 [] [.agg c.c,.int .i64 f,.int .i64 z] (.tup [.agg a.c,.int .i64 (uU c f z).2]) []∧kI a (uU c f z).1:=by
 have k64:=bJB c h f z
 unfold aUQ at k64
 unfold uU
 cases hr:jA c f z 0 with
 |false=>
  rw [hr] at k64
  exact⟨_,k64,.x c⟩
 |true=>
  rw [hr] at k64
  obtain⟨f,z,n,rfl,rfl,-,hf,hb⟩:=eC hr
  have hz:z≤128:=by omega
  rw [cond_true] at k64⊢
  simp only [zA] at k64⊢
  obtain⟨s1,s2⟩:=aJS (kI.x c) f (z:Int)
  have hs:=(h.file f hf).size
  unfold bDF at k64
  unfold aM5
  by_cases hlt:z< (c.fl.getD f aK).size
  ·have h0:bT c f (z:Int)=(c,0):=by
    unfold bT eN
    rw [decide_eq_true (by omega)];rfl
   have hrd:bY c f z (128-z)=bY c f z ((c.fl.getD f aK).size-z):=by unfold bY;omega
   rw [decide_eq_true hlt,cond_true] at k64
   rw [h0]
   dsimp only
   rw [hrd]
   have hle:bY c f z ((c.fl.getD f aK).size-z)≤128-z:=by unfold bY;omega
   have s:=vA (kI.x c) h hf (off:=z) (n:=bY c f z ((c.fl.getD f aK).size-z)) (by omega) _ (Nat.le_refl _)
   cases hm:(eI c f z (bY c f z ((c.fl.getD f aK).size-z)) (cnt z (bY c f z ((c.fl.getD f aK).size-z)))).2.2 with
   |true=>
    rw [hm] at k64
    exact⟨_,k64,s.sz _ _⟩
   |false=>
    rw [hm] at k64
    exact⟨_,k64,.x c⟩
  ·rw [decide_eq_false hlt,cond_false] at k64
   have h0:bY c f z (128-z)=0:=by unfold bY;omega
   have hsz:((bT c f (z:Int)).1.fl.getD f aK).size=(c.fl.getD f aK).size:=by
    unfold bT
    split
    ·rfl
    ·split
     ·rfl
     ·cases(gP false _ _==0)
      ·rfl
      ·exact iT _ _ _ _
   have h1:bY (bT c f (z:Int)).1 f z (128-z)=0:=by unfold bY;rw [hsz];omega
   rw [h0,h1]
   rw [aH6] at s2
   rw [s2] at k64
   cases hg:((bT c f (z:Int)).2==0) with
   |true=>
    rw [hg] at k64
    exact⟨_,k64,s1.sz _ _⟩
   |false=>
    rw [hg] at k64
    exact⟨_,k64,.x c⟩
theorem bK4(c:Dc)(h:Ok c)(hm:iL c)(f off:Int)(d:ByteArray)(hd:d.size≤1000000):∃a:Dc,aQ Tryz.prog 56 [] [.agg c.c,.int .i64 f,.int .i64 off,.str d] (.tup [.agg a.c,.int .i64 (vB c f off d).2]) []∧kI a (vB c f off d).1:=by
 unfold vB
 cases hr:jA c f off d.size with
 |false=>exact⟨_,bGM c h f off d (by omega) hr,.x c⟩
 |true=>
  obtain⟨f,off,n,rfl,rfl,e,hf,hb⟩:=eC hr
  have hb:off+d.size≤128:=by omega
  obtain⟨s1,s2⟩:=aQV (kI.x c) f off d
  have k56:=bJ9 c h hm f off d hf hb
  rw [s2] at k56
  exact⟨_,k56,s1⟩
structure Inv(c:Dc)(W D:Nat→UInt8)(z:Nat):Prop where
 ok:Ok c
 okm:iL c
 fl:c.fl.length=1
 fr:c.fr.length=8
 zo:c.zo.length=1
 gr:c.gr.length=1
 md:Md c W D
 sz:(c.fl.getD 0 aK).size=z
theorem iL.sim {a b:Dc} (s:kI a b)(h:iL b):iL a:=h.keep s.fr fun f p=>by rw [s.fl]
theorem Inv.step {c a b:Dc} {W D W' D':Nat→UInt8} {z z':Nat} (i:Inv c W D z)(s:kI a b)(o:Ok b)(m:iL b)(sh:Sh c b)(k:Md b W' D')(hz:(b.fl.getD 0 aK).size=z'):Inv a W' D' z':=
 ⟨s.ok o,m.sim s,by rw [s.fl,sh.fl];exact i.fl,by rw [s.fr,sh.fr];exact i.fr,by rw [s.zo.len,sh.zo];exact i.zo,by rw [s.gr,sh.gr];exact i.gr,k.sim s,by rw [s.fl];exact hz⟩
theorem bDD(c:Dc)(f p t pf:Int)(ur:Bool):((jB c f p t pf ur).1.fl.getD 0 aK).size=(c.fl.getD 0 aK).size:=by
 unfold jB
 cases inI c f p t pf with
 |false=>rfl
 |true=>
  rw [cond_true]
  generalize f.toNat=f
  generalize p.toNat=p
  generalize t.toNat=t
  unfold eA
  cases decide (0< ((c.fl.getD f aK).E p).1) with
  |true=>rfl
  |false=>
   rw [cond_false]
   cases((cB c.gr t).2==0) with
   |false=>rfl
   |true=>
    rw [cond_true]
    cases((bX c.zo c.zo pf ur).2.2==0) with
    |false=>rfl
    |true=>exact aDP (nZ _ _)
theorem bHF(c:Dc)(n:Int):((evG c n).1.fl.getD 0 aK).size=(c.fl.getD 0 aK).size:=by
 unfold evG
 split
 ·rfl
 ·rename_i m u _
  cases(pR u&&decide (u.p.d=0)) with
  |false=>rfl
  |true=>exact aDP (nZ _ _)
theorem bHG(c:Dc)(n k:Int):((rbG c n k).1.fl.getD 0 aK).size=(c.fl.getD 0 aK).size:=by
 unfold rbG
 split
 ·rfl
 ·rename_i m u _
  cases decide ((1≤k∧k≤3)∧k.toNat &&& (u.p.v ||| u.rd)=0) with
  |false=>rfl
  |true=>exact iT _ _ _ _
theorem bHH(c:Dc)(n:Int)(d:ByteArray)(ok:Bool):((reG c n d ok).1.fl.getD 0 aK).size=(c.fl.getD 0 aK).size:=by
 unfold reG
 split
 ·rfl
 ·rename_i m u _
  unfold uR
  cases(u.rd==0) with
  |true=>rfl
  |false=>
   cases(ok&&decide (d.size≠16)) with
   |true=>rfl
   |false=>exact iT _ _ _ _
theorem Inv.ins {c:Dc} {W D:Nat→UInt8} {z:Nat} (i:Inv c W D z)(f p t pf:Int)(ur:Bool):Inv (qO c f p t pf ur).1 W D z:=
 i.step (aND i.ok f p t pf ur).1 (aNB i.ok _ _ _ _ _) (aSG i.ok i.okm _ _ _ _ _) (Sh.jB _ _ _ _ _ _) (i.md.ins i.ok i.fl _ _ _ _ _) ((bDD _ _ _ _ _ _).trans i.sz)
theorem Inv.ev {c:Dc} {W D:Nat→UInt8} {z:Nat} (i:Inv c W D z)(n:Int):Inv (evP c n).1 W D z:=
 i.step (bBH i.ok n).1 (bBG i.ok _) (aWI i.ok i.okm _) (Sh.ev _ _) (i.md.ev i.ok i.fl _) ((bHF _ _).trans i.sz)
theorem Inv.rb {c:Dc} {W D:Nat→UInt8} {z:Nat} (i:Inv c W D z)(n k:Int):Inv (rbP c n k).1 W D z:=
 i.step (aU4 i.ok i.okm n k).1 (bCY i.ok _ _) (aXO i.ok i.okm _ _) (Sh.rb _ _ _) (i.md.rb i.ok i.fl _ _) ((bHG _ _ _).trans i.sz)
theorem aXP {c:Dc} {W D:Nat→UInt8} {z:Nat} (i:Inv c W D z)(n k:Int) {m:Nat} {u:Us} (m1:m<c.fr.length)(m2:c.fr.getD m none=some u):∃v,(rbP c n k).1.fr.getD m none=some v∧v.page=u.page:=by
 rw [(aU4 i.ok i.okm n k).1.fr]
 unfold rbG
 rcases cK c n with ⟨e,hu⟩| ⟨j,w,e,rfl,h1,h2⟩
 ·rw [e];exact⟨u,m2,rfl⟩
 ·rw [e]
  dsimp only
  cases decide ((1≤k∧k≤3)∧k.toNat &&& (w.p.v ||| w.rd)=0) with
  |false=>exact⟨u,m2,rfl⟩
  |true=>
   show ∃v,(c.fr.set j (some (aFE w (w.rd ||| k.toNat)))).getD m none=some v∧v.page=u.page
   by_cases x:m=j
   ·subst x
    rw [aD _ _ _ _ m1]
    rw [m2] at h2
    injection h2 with h2
    subst h2
    exact⟨_,rfl,rfl⟩
   ·rw [getD_set_ne _ _ _ x];exact⟨u,m2,rfl⟩
theorem Inv.re {c:Dc} {W D:Nat→UInt8} {z:Nat} (i:Inv c W D z) {m:Nat} {u:Us} (m1:m<c.fr.length)(m2:c.fr.getD m none=some u) {d:ByteArray} (hd:d.size=16)(hD:∀i,i<16→iY d i=D (u.page*16+i)):Inv (reP c ((m+1:Nat):Int) d true).1 W D z:=
 i.step (bD6 i.ok i.okm _ _ _).1 (bD5 i.ok _ _ _) (aY0 i.ok i.okm _ _ _) (Sh.re _ _ _ _) (i.md.re i.ok i.fl m1 m2 hd hD) ((bHH _ _ _ _).trans i.sz)
theorem aSI {c:Dc} (h:Ok c) {p:Nat} {t pf:Int} {ur:Bool} (h1:c.fl.length=1)(e:(jB c 0 (p:Int) t pf ur).2.2=0):∃m u,(jB c 0 (p:Int) t pf ur).2.1=((m+1:Nat):Int)∧cC (jB c 0 (p:Int) t pf ur).1 0 p=some (m,u):=by
 obtain⟨m,g1,g2,g3⟩:=aWY (f:=0) (p:=p) (t:=t) (pf:=pf) (ur:=ur) h (by omega) e
 rw [show((0:Nat):Int)=0 from rfl] at g1 g2
 have o:=aNB h 0 (p:Int) t pf ur
 obtain⟨q1,q2,q3,q4,q5⟩:=bI o (by omega) g1
 refine⟨m,_,?_,g1⟩
 rw [←q5]
 unfold jB at *
 cases hi:inI c 0 (p:Int) t pf with
 |false=>rw [hi] at e;cases e
 |true=>
  rw [hi,cond_true] at e
  rw [cond_true]
  rw [show(0:Int).toNat=0 from rfl,zA] at *
  unfold eA at *
  cases a1:decide (0< ((c.fl.getD 0 aK).E p).1) with
  |true=>rw [a1] at e;cases e
  |false=>
   rw [a1,cond_false] at e
   rw [cond_false]
   cases a2:((cB c.gr t.toNat).2==0) with
   |false=>
    rw [a2,cond_false] at e
    exact absurd (beq_iff_eq.2 e) (by rw [a2];simp)
   |true=>
    rw [a2,cond_true] at e
    rw [cond_true]
    cases a3:((bX c.zo c.zo pf ur).2.2==0) with
    |false=>
     rw [a3,cond_false] at e
     exact absurd (beq_iff_eq.2 e) (by rw [a3];simp)
    |true=>
     obtain⟨k,b1,b2,b3⟩:=take_at h (eq_of_beq a3)
     rw [cond_true]
     dsimp only
     rw [b2,show(((k+1:Nat):Int)-1).toNat=k by omega]
     show _=(((c.fl.set 0 (dG (c.fl.getD 0 aK) (dA (c.fl.getD 0 aK).E p (((k+1:Nat):Int),0)))).getD 0 aK).E p).1
     rw [aD _ _ _ _ (by omega),dK,cR]
end Go.Proofs.YtmhapcbjjpadnaaGreat
