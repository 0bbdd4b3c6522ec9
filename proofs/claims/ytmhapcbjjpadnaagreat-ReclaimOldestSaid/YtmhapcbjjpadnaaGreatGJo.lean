/- Caches. -/
import Derived.Test.YtmhapcbjjpadnaaGreatGIo
import Derived.Test.YtmhapcbjjpadnaaGreatGHo
import Derived.Test.YtmhapcbjjpadnaaGreatXRKo
import Derived.Test.YtmhapcbjjpadnaaGreatG8o
import Derived.Test.YtmhapcbjjpadnaaGreatGGo
import Derived.Test.YtmhapcbjjpadnaaGreatK8o
import Derived.Test.YtmhapcbjjpadnaaGreatXRNo
set_option linter.all false
set_option maxRecDepth 40000
open List renaming length_set→zA
open Nat renaming or_lt_two_pow→zC
namespace Go.Proofs.YtmhapcbjjpadnaaGreat
open Go Go.Sk Go.RowKit
def bK8(u:Us)(s:Nat):Us:=⟨u.file,u.page,aVF u.p s,u.ten,u.holds,u.rd,s⟩
def bA0(c:Dc)(u:Us):Nat:=bif uX (c.fl.getD u.file bC).blocks u.page then 3 else u.p.d
def bK7(c:Dc)(m:Nat)(u:Us):Dc:=(c.put m (bK8 u (bA0 c u))).pts (c.pt.map (aTW ((m+1:Nat):Int)))
theorem aQ3 {c:Dc} {u:Us} (h:gJ u.p):bA0 c u<4:=by
 unfold bA0;have :=h.d
 cases uX (c.fl.getD u.file bC).blocks u.page with
 |true=>rw [zct];omega
 |false=>rw [zcf];exact this
theorem bBM {l:List Pt} (h:lK l=true)(f:Int):lK (l.map (aTW f))=true:=by
 obtain⟨e,j⟩:=(kI l).1 h;have e1:∀x,dQ (aTW f x)=dQ x:=λx=>by unfold aTW;cases(x.frame==f)<;> rfl
 have m:∀x,eH (aTW f x)=eH x:=λx=>by unfold aTW;cases(x.frame==f)<;> rfl
 refine(kI _).2 ⟨λx z=>?_,List.pairwise_map.2 (j.imp λh=>by rw [e1,e1];exact h)⟩;obtain⟨y,B,rfl⟩:=List.mem_map.1 z;rw [m];exact e y B
theorem aZZ {c:Dc} (h:Ok c) {m:Nat} {u:Us} (f:m<c.fr.length)(h2:c.fr.getD m none=some u):Ok (bK7 c m u):=by have e:=h.use m u f h2;exact(h.put f h2 (u':=bK8 u (bA0 c u)) rfl (aSZ e.pg (aQ3 e.pg)) e.holds e.rd (aQ3 e.pg)).pts (bBM h.pt _)
def fer(f:Df)(a b:Int):Df:=⟨f.dev,f.slot,f.E,f.size,f.blocks,a,b⟩
def onB(b p:Nat):Nat:=b ||| 2^p
def Dc.blo(c:Dc)(f p:Nat):Dc:=⟨c.fl.set f (fbl (c.fl.getD f bC) (onB (c.fl.getD f bC).blocks p)),c.fr,c.zo,c.gr,c.ls,c.ck,c.pt⟩
def Dc.ers(c:Dc)(f:Nat)(e:Int):Dc:=⟨c.fl.set f (fer (c.fl.getD f bC) (aPB (c.fl.getD f bC).ec (c.fl.getD f bC).ee e).1 (aPB (c.fl.getD f bC).ec (c.fl.getD f bC).ee e).2),c.fr,c.zo,c.gr,c.ls,c.ck,c.pt⟩
theorem Ok.fl1 {c:Dc} (h:Ok c) {f:Nat} (z:f<c.fl.length) {x:Df} (j:OkF x)(B:x.E=(c.fl.getD f bC).E):Ok ⟨c.fl.set f x,c.fr,c.zo,c.gr,c.ls,c.ck,c.pt⟩:=by
 refine h.same (zA ..) (λg q=>?_) (λg hg=>?_) rfl (λ_=>rfl) (λm v C D=>?_) rfl rfl rfl h.ls (λ_ _ j=>j) rfl h.pt
 ·show(((c.fl.set f x).getD g bC).E q).1=_
  by_cases e:g=f
  ·subst e;rw [aH _ _ _ _ z,B]
  ·rw [getD_set_ne _ _ _ e]
 ·show OkF ((c.fl.set f x).getD g bC)
  by_cases e:g=f
  ·subst e;rw [aH _ _ _ _ z];exact j
  ·rw [getD_set_ne _ _ _ e];exact h.file g hg
 ·have :=h.use m v C D;exact⟨this.pg,this.holds,this.rd,this.wr⟩
theorem Ok.blo {c:Dc} (h:Ok c) {f p:Nat} (e:f<c.fl.length)(j:p<8):Ok (c.blo f p):=by have k:=h.file f e;exact h.fl1 e ⟨k.E,k.sup,k.lo,k.size,zC (n:=8) k.blocks (Nat.pow_lt_pow_right (by omega) j),k.ec,k.ee⟩ rfl
theorem bC5 {a b e:Int} (h:0<=a/\a<=1000000)(h2:a=0↔b=0)(f:e≠0):(0<=(aPB a b e).1/\(aPB a b e).1<=1000000)/\((aPB a b e).1=0↔(aPB a b e).2=0):=by
 unfold aPB
 by_cases x:a=1000000
 ·rw [zbe.2 x,zct];exact⟨h,h2⟩
 ·rw [zbn.2 x,zcf];dsimp only;exact⟨by omega,by omega⟩
theorem Ok.ers {c:Dc} (h:Ok c) {f:Nat} (j:f<c.fl.length) {e:Int} (m:e≠0):Ok (c.ers f e):=by have k:=h.file f j;obtain⟨z,B⟩:=bC5 k.ec k.ee m;exact h.fl1 j ⟨k.E,k.sup,k.lo,k.size,k.blocks,z,B⟩ rfl
def aT4(u:Us)(e:Int):Us:=⟨u.file,u.page,bif e==0 then u.p else aGS u.p u.wr,u.ten,u.holds,u.rd,0⟩
def bAD(c:Dc)(m:Nat)(u:Us)(e:Int):Dc:=bif e==0 then(c.put m (aT4 u e)).blo u.file u.page else(c.put m (aT4 u e)).ers u.file e
theorem bAF {u:Us} (h:gJ u.p)(f:u.wr<4)(e:Int):gJ (aT4 u e).p:=by
 unfold aT4
 cases(e==0) with
 |true=>exact h
 |false=>exact aAU h f
theorem bAE {c:Dc} (h:Ok c) {m:Nat} {u:Us} (j:m<c.fr.length)(h2:c.fr.getD m none=some u)(e:Int):Ok (bAD c m u e):=by
 have f:=h.use m u j h2;have B:=h.put j h2 (u':=aT4 u e) rfl (bAF f.pg f.wr e) f.holds f.rd (by show 0<4;omega);have z:u.file< (c.put m (aT4 u e)).fl.length:=by rw [aE2];exact f.file
 unfold bAD
 by_cases x:e=0
 ·rw [zbe.2 x];exact B.blo z f.page
 ·rw [zbn.2 x];exact B.ers z x
theorem draw(L:List Int) {J:Nat} (m:(L.length:Int)<2^62)(j:J<=L.length)(n:Int)(f:0<n)(z:n<1000000000):
 ∃v e:Nat,(v:Int)<n/\e<=L.length/\aN Tryz.prog 15 [tpO L J] [.ptr 0 0 0,.int .i64 n] (.int .i64 (v:Int)) [tpO L e]:=by
 have a:=aX2 L J n f (by omega);refine⟨(nxV L J n).toNat,nxI L J,by omega,aX1 L J j,?_⟩;rw [show(((nxV L J n).toNat:Nat):Int)=nxV L J n by omega];exact bEC L J n m j f (by omega)
def bKC(f p:Nat)(i:Nat):List UInt8:=(List.range 16).map λj=>bif decide (j<i) then UInt8.ofNat (65+(f*7+p*3+j)%26) else 0
def bKD(f p:Nat):ByteArray:=⟨(bKC f p 16).toArray⟩
def fU(c:Dc)(n:Int):Option (Nat×Us):=bif nP c n then(c.fr.getD (n-1).toNat none).map λu=>((n-1).toNat,u) else none
theorem cY(c:Dc)(n:Int):(fU c n=none/\nP c n=false)\/∃(m:Nat) (u:Us),fU c n=some (m,u)/\n=((m+1:Nat):Int)/\m<c.fr.length/\c.fr.getD m none=some u:=by
 unfold fU;rcases aPL c n with h | ⟨m,u,rfl,e,h2⟩
 ·rw [h];exact .inl ⟨rfl,rfl⟩
 ·refine .inr ⟨m,u,?_,rfl,e,h2⟩;rw [aKM e h2,show(((m+1:Nat):Int)-1).toNat=m by omega,h2];rfl
def evG(c:Dc)(n:Int):Dc×Int:=match fU c n with
 |none=>(c,2)
 |some (m,u)=>bif iQ u&&decide (u.p.d=0) then(c.evi m u,0) else(c,7)
theorem aVR {c:Dc} (h:Ok c)(n:Int):Ok (evG c n).1:=by
 unfold evG;rcases cY c n with ⟨e,j⟩| ⟨m,u,e,rfl,f,h2⟩
 ·rw [e];exact h
 ·rw [e];dsimp only
  cases(iQ u&&decide (u.p.d=0)) with
  |false=>exact h
  |true=>exact h.evi f h2
def aWE(c:Dc)(n k:Int):Dc×Int:=match fU c n with
 |none=>(c,2)
 |some (m,u)=>bif decide ((-255<=k/\k<=255)/\0<=(u.holds:Int)+k/\(u.holds:Int)+k<=255) then(c.put m (bKU u ((u.holds:Int)+k).toNat),0) else(c,1)
theorem bAV {c:Dc} (h:Ok c)(n k:Int):Ok (aWE c n k).1:=by
 unfold aWE;rcases cY c n with ⟨e,f⟩| ⟨m,u,e,rfl,j,h2⟩
 ·rw [e];exact h
 ·rw [e];dsimp only;have f:=h.use m u j h2
  by_cases x:(-255<=k/\k<=255)/\0<=(u.holds:Int)+k/\(u.holds:Int)+k<=255
  ·rw [zdt x];exact h.put j h2 rfl f.pg (by show((u.holds:Int)+k).toNat<=255;omega) f.rd f.wr
  ·rw [zdf x];exact h
def rbG(c:Dc)(n k:Int):Dc×Int:=match fU c n with
 |none=>(c,2)
 |some (m,u)=>bif decide ((1<=k/\k<=3)/\k.toNat &&& (u.p.v ||| u.rd)=0) then(c.put m (bFB u (u.rd ||| k.toNat)),0) else(c,1)
theorem or4 {a b:Nat} (e:a<4)(f:b<4):a ||| b<4:=zC (n:=2) e f
theorem aY0 {c:Dc} (h:Ok c)(n k:Int):Ok (rbG c n k).1:=by
 unfold rbG;rcases cY c n with ⟨e,f⟩| ⟨m,u,e,rfl,j,h2⟩
 ·rw [e];exact h
 ·rw [e];dsimp only;have f:=h.use m u j h2
  by_cases x:(1<=k/\k<=3)/\k.toNat &&& (u.p.v ||| u.rd)=0
  ·rw [zdt x];exact h.put j h2 rfl f.pg f.holds (or4 f.rd (by omega)) f.wr
  ·rw [zdf x];exact h
def reG(c:Dc)(n:Int)(d:ByteArray)(ok:Bool):Dc×Int:=match fU c n with
 |none=>(c,2)
 |some (m,u)=>aRT c m u d ok
theorem aYC {c:Dc} (h:Ok c)(n:Int)(d:ByteArray)(ok:Bool):Ok (reG c n d ok).1:=by
 unfold reG;rcases cY c n with ⟨e,j⟩| ⟨m,u,e,rfl,f,h2⟩
 ·rw [e];exact h
 ·rw [e];exact aYF h f h2 d ok
def bgG(c:Dc)(n:Int):Dc×Int:=match fU c n with
 |none=>(c,2)
 |some (m,u)=>bif u.wr==0 then(bif u.p.d==0 then(c,4) else(bK7 c m u,0)) else(c,7)
theorem bFT {c:Dc} (h:Ok c)(n:Int):Ok (bgG c n).1:=by
 unfold bgG;rcases cY c n with ⟨e,j⟩| ⟨m,u,e,rfl,f,h2⟩
 ·rw [e];exact h
 ·rw [e];dsimp only
  cases(u.wr==0) with
  |false=>exact h
  |true=>
   cases(u.p.d==0) with
   |true=>exact h
   |false=>exact aZZ h f h2
def enG(c:Dc)(n e:Int):Dc×Int:=match fU c n with
 |none=>(c,2)
 |some (m,u)=>bif u.wr==0 then(c,4) else(bAD c m u e,0)
theorem bG1 {c:Dc} (h:Ok c)(n e:Int):Ok (enG c n e).1:=by
 unfold enG;rcases cY c n with ⟨x,j⟩| ⟨m,u,x,rfl,f,h2⟩
 ·rw [x];exact h
 ·rw [x];dsimp only
  cases(u.wr==0) with
  |true=>exact h
  |false=>exact bAE h f h2 e
def aDM(c:Dc)(f off:Int)(s:ByteArray):Dc×Int:=bif vJ c f off s.size then aD9 c f.toNat off.toNat s else(c,2)
theorem bNN(c:Dc)(h:Ok c)(f off:Int)(s:ByteArray)(E:s.size<=1000000):aN Tryz.prog 57 [] [.agg c.c,.int .i64 f,.int .i64 off,.str s] (.tup [.agg (aDM c f off s).1.c,.int .i64 (aDM c f off s).2]) []:=by
 unfold aDM
 cases z:vJ c f off s.size with
 |true=>
  obtain⟨f,off,n,rfl,rfl,e,D,C⟩:=sR z;have :n=s.size:=by omega
  subst this;exact bPN c h f off s D C
 |false=>
  have j:=bGL c f;have m:=aFY off (s.size:Int);unfold vJ at z;rw [zcf]
  cases B:decide (0<=f/\f< (c.fl.length:Int)) with
  |false=> rw [B] at j;refine aQ (ob0:= []) [] Tryz.func57 rfl rfl rfl rfl ?_;exact Wz
  |true=> rw [B,zct] at z;rw [B] at j;rw [z] at m;refine aQ (ob0:= []) [] Tryz.func57 rfl rfl rfl rfl ?_;exact Wz
theorem aZE {c:Dc} (h:Ok c) {f off:Nat} {s:ByteArray} (j:f<c.fl.length)(B:off+s.size<=128):Ok (aD9 c f off s).1:=by
 unfold aD9
 cases(s.size==0) with
 |true=>exact h
 |false=>
  rw [zcf];obtain⟨D,m,F,G⟩:=aE7 h ((off+s.size:Nat):Int) j;obtain⟨z,E,H⟩:=aKR D (s:=s) (off:=off) (show f< (eJ c f ((off+s.size:Nat):Int)).1.fl.length by rw [m];exact j) B _ (Nat.le_refl _);have e:f< (wrL (eJ c f ((off+s.size:Nat):Int)).1 f off s (cnt off s.size)).fl.length:=by rw [E,m];exact j
  have C:=(z.file f e).size
  cases iW c f off s.size true (cnt off s.size) with
  |none=>exact h
  |some L=>
   dsimp only
   cases((eJ c f ((off+s.size:Nat):Int)).2==4) with
   |true=>exact h
   |false=>
    rw [zcf]
    cases(L.isEmpty&&(eJ c f ((off+s.size:Nat):Int)).2==0) with
    |false=>exact h
    |true=>exact z.sz e (by omega)
theorem aSH {c:Dc} (h:Ok c)(f off:Int)(s:ByteArray):Ok (aDM c f off s).1:=by
 unfold aDM
 cases m:vJ c f off s.size with
 |false=>exact h
 |true=> obtain⟨f,off,n,rfl,rfl,e,j,z⟩:=sR m;exact aZE h j (by omega)
structure Sh(c d:Dc):Prop where
 fl:d.fl.length=c.fl.length
 fr:d.fr.length=c.fr.length
 zo:d.zo.length=c.zo.length
 gr:d.gr.length=c.gr.length
theorem Sh.refl(c:Dc):Sh c c:=⟨rfl,rfl,rfl,rfl⟩
theorem Sh.trans {a b c:Dc} (h:Sh a b)(k:Sh b c):Sh a c:=⟨k.fl.trans h.fl,k.fr.trans h.fr,k.zo.trans h.zo,k.gr.trans h.gr⟩
theorem aTC(l:List Zn)(f:Int):(eN l l f).1.length=l.length:=by
 unfold eN
 cases aX l with
 |false=>rfl
 |true=>
  cases decide (dZ (inG f) l<0) with
  |true=>rfl
  |false=>
   cases aBK (l.getD (dZ (inG f) l).toNat gN).free f with
   |true=>rfl
   |false=>exact zA ..
theorem aUP(g:List Gr)(t:Nat):(gC g t).1.length=g.length:=by
 unfold gC
 cases decide ((g.getD t g0).chg<1) with
 |true=>rfl
 |false=>exact sG _ _ _
theorem aLA(g:List Gr)(t:Nat):(fG g t).1.length=g.length:=by
 unfold fG
 cases decide ((g.getD t g0).lim- (g.getD t g0).chg<1) with
 |true=>rfl
 |false=>exact sG _ _ _
theorem Sh.put(c:Dc)(m:Nat)(u:Us):Sh c (c.put m u):=⟨zA ..,zA ..,rfl,rfl⟩
theorem Sh.pts(c:Dc)(l:List Pt):Sh c (c.pts l):=⟨rfl,rfl,rfl,rfl⟩
theorem Sh.acc(c:Dc)(m t:Nat):Sh c (c.acc m t):=⟨rfl,rfl,rfl,rfl⟩
theorem Sh.gone(c:Dc)(m:Nat)(u:Us)(v:Int):Sh c (c.gone m u v):=⟨zA ..,zA ..,aTC _ _,aUP _ _⟩
theorem Sh.evi(c:Dc)(m:Nat)(u:Us):Sh c (c.evi m u):=
 have k:=Sh.gone c m u (0- (c.ck.getD u.ten 0+1))
 ⟨k.fl,k.fr,k.zo,k.gr⟩
theorem Sh.ins(c:Dc)(f p t:Nat) {z:List Zn} {g:List Gr} (m:Nat)(e:z.length=c.zo.length)(hg:g.length=c.gr.length):Sh c (c.ins f p t z g m):=⟨zA ..,zA ..,e,hg⟩
theorem Sh.fl1(c:Dc)(f:Nat)(x:Df):Sh c ⟨c.fl.set f x,c.fr,c.zo,c.gr,c.ls,c.ck,c.pt⟩:=⟨zA ..,rfl,rfl,rfl⟩
theorem Sh.wi1(c:Dc)(f off n p:Nat):Sh c (aHE c f off n p):=by
 unfold aHE
 cases isW c f off n p with
 |true=>
  cases iR c f p with
  |none=>exact(Sh.fl1 c _ _).trans (Sh.fl1 _ _ _)
  |some x=>exact(Sh.gone c _ _ _).trans (Sh.fl1 _ _ _)
 |false=>
  cases iR c f p with
  |none=>exact Sh.refl c
  |some x=>exact Sh.put c _ _
theorem Sh.wiL(c:Dc)(f off n:Nat):∀k,Sh c (vZ c f off n k)
 |0=>Sh.refl c
 |k+1=>(Sh.wiL c f off n k).trans (Sh.wi1 _ _ _ _ _)
theorem Sh.soi(c:Dc)(f:Nat)(e:Int):Sh c (eJ c f e).1:=by
 unfold eJ;split
 ·exact Sh.refl c
 ·split
  ·exact Sh.refl c
  ·cases(sF false _ _==0) with
   |true=>exact Sh.put c _ _
   |false=>exact Sh.refl c
theorem Sh.wr_(c:Dc)(f off:Nat)(s:ByteArray):∀k,Sh c (wrL c f off s k)
 |0=>Sh.refl c
 |k+1=>by
  have e:=Sh.wr_ c f off s k;rw [wrL];split
  ·exact(e.trans (Sh.put _ _ _)).trans (Sh.acc _ _ _)
  ·exact e
theorem Sh.writ(c:Dc)(f off:Int)(s:ByteArray):Sh c (aDM c f off s).1:=by
 unfold aDM
 cases vJ c f off s.size with
 |false=>exact Sh.refl c
 |true=>
  rw [zct];unfold aD9
  cases(s.size==0) with
  |true=>exact Sh.refl c
  |false=>
   rw [zcf]
   cases iW c f.toNat off.toNat s.size true (cnt off.toNat s.size) with
   |none=>exact Sh.refl c
   |some L=>
    dsimp only
    cases((eJ c f.toNat ((off.toNat+s.size:Nat):Int)).2==4) with
    |true=>exact Sh.refl c
    |false=>
     rw [zcf]
     cases(L.isEmpty&&(eJ c f.toNat ((off.toNat+s.size:Nat):Int)).2==0) with
     |false=>exact Sh.refl c
     |true=>exact((Sh.soi c _ _).trans (Sh.wr_ _ _ _ _ _)).trans (Sh.fl1 _ _ _)
theorem Sh.ev(c:Dc)(n:Int):Sh c (evG c n).1:=by
 unfold evG;split
 ·exact Sh.refl c
 ·rename_i m u e
  cases(iQ u&&decide (u.p.d=0)) with
  |false=>exact Sh.refl c
  |true=>exact Sh.evi c m u
theorem Sh.hol(c:Dc)(n k:Int):Sh c (aWE c n k).1:=by
 unfold aWE;split
 ·exact Sh.refl c
 ·rename_i m u e
  cases decide ((-255<=k/\k<=255)/\0<=(u.holds:Int)+k/\(u.holds:Int)+k<=255) with
  |false=>exact Sh.refl c
  |true=>exact Sh.put c _ _
theorem Sh.rb(c:Dc)(n k:Int):Sh c (rbG c n k).1:=by
 unfold rbG;split
 ·exact Sh.refl c
 ·rename_i m u e
  cases decide ((1<=k/\k<=3)/\k.toNat &&& (u.p.v ||| u.rd)=0) with
  |false=>exact Sh.refl c
  |true=>exact Sh.put c _ _
theorem Sh.re(c:Dc)(n:Int)(d:ByteArray)(ok:Bool):Sh c (reG c n d ok).1:=by
 unfold reG;split
 ·exact Sh.refl c
 ·rename_i m u e;unfold aRT
  cases(u.rd==0) with
  |true=>exact Sh.refl c
  |false=>
   cases(ok&&decide (d.size≠16)) with
   |true=>exact Sh.refl c
   |false=>exact Sh.put c _ _
theorem Sh.bg(c:Dc)(n:Int):Sh c (bgG c n).1:=by
 unfold bgG;split
 ·exact Sh.refl c
 ·rename_i m u e
  cases(u.wr==0) with
  |false=>exact Sh.refl c
  |true=>
   cases(u.p.d==0) with
   |true=>exact Sh.refl c
   |false=>exact(Sh.put c _ _).trans (Sh.pts _ _)
theorem Sh.en(c:Dc)(n e:Int):Sh c (enG c n e).1:=by
 unfold enG;split
 ·exact Sh.refl c
 ·rename_i m u x
  cases(u.wr==0) with
  |true=>exact Sh.refl c
  |false=>
   rw [zcf];unfold bAD
   cases(e==0) with
   |true=>exact(Sh.put c _ _).trans (Sh.fl1 _ _ _)
   |false=>exact(Sh.put c _ _).trans (Sh.fl1 _ _ _)
theorem Sh.mU(c:Dc)(f p t e:Int)(j:Bool):Sh c (mU c f p t e j).1:=by
 unfold Go.Proofs.YtmhapcbjjpadnaaGreat.mU
 cases inI c f p t e with
 |false=>exact Sh.refl c
 |true=>
  rw [zct];unfold fR
  cases decide (0< ((c.fl.getD f.toNat bC).E p.toNat).1) with
  |true=>exact Sh.refl c
  |false=>
   rw [zcf]
   cases((fG c.gr t.toNat).2==0) with
   |false=>exact Sh.refl c
   |true=>
    rw [zct]
    cases((cV c.zo c.zo e j).2.2==0) with
    |false=>exact Sh.refl c
    |true=>exact Sh.ins c _ _ _ _ aUM (aLA _ _)
theorem Sh.ent(c:Dc)(z j f a:Int)(w:Bool):Sh c (aVP c z j f a w).1:=by
 unfold aVP
 cases inE c z j f a with
 |false=>exact Sh.refl c
 |true=>
  rw [zct];unfold bAG
  cases decide ((c.fl.getD f.toNat bC).size<=a.toNat*16) with
  |true=>exact Sh.refl c
  |false=>
   rw [zcf];split
   ·exact Sh.refl c
   ·rename_i m u e
    cases(decide (u.p.v≠3)||(w&&decide (u.wr≠0))) with
    |true=>exact Sh.refl c
    |false=>exact((Sh.put c _ _).trans (Sh.acc _ _ _)).trans (Sh.pts _ _)
theorem Sh.pun(c:Dc)(f off n:Int):Sh c (aXY c f off n).1:=by
 unfold aXY
 cases vJ c f off n with
 |false=>exact Sh.refl c
 |true=>
  rw [zct];unfold bBO
  cases(iA c f.toNat off.toNat (fV c f.toNat off.toNat n.toNat) (cnt off.toNat (fV c f.toNat off.toNat n.toNat))).2.2 with
  |false=>exact Sh.refl c
  |true=>exact Sh.wiL c _ _ _ _
theorem Sh.trn(c:Dc)(f z:Int):Sh c (rW c f z).1:=by
 unfold rW
 cases vJ c f z 0 with
 |false=>exact Sh.refl c
 |true=>
  rw [zct];unfold aYY
  cases((eJ c f.toNat (z.toNat:Int)).2==0) with
  |false=>exact Sh.refl c
  |true=>
   rw [zct]
   cases(iA c f.toNat z.toNat (fV c f.toNat z.toNat (128-z.toNat)) (cnt z.toNat (fV c f.toNat z.toNat (128-z.toNat)))).2.2 with
   |false=>exact Sh.refl c
   |true=>exact((Sh.soi c _ _).trans (Sh.wiL _ _ _ _ _)).trans (Sh.fl1 _ _ _)
def aYB(d:Dc)(f:Nat)(p:Int)(n:Int):Dc:=match fU d n with
 |none=>d
 |some (m,u)=>bif !(sF false 3 (u.p.v ||| u.rd)==0)&&u.rd==0 then(reG (rbG d n (sF false 3 (u.p.v ||| u.rd):Nat)).1 n (bKD f p.toNat) true).1 else d
def bC2(c:Dc)(f:Nat)(p:Int):Dc:=match iR c f p.toNat with
 |some (m,u)=>aYB c f p ((m+1:Nat):Int)
 |none=>bif (mU c f p 0 ((c.zo.length:Int)-1) true).2.2==0 then aYB (mU c f p 0 ((c.zo.length:Int)-1) true).1 f p (mU c f p 0 ((c.zo.length:Int)-1) true).2.1 else c
def bC4(c:Dc)(f:Nat)(ps:List Int):Nat->Dc
 |0=>c
 |k+1=>bC2 (bC4 c f ps k) f (ps.getD k 0)
theorem aRP {d:Dc} (h:Ok d)(f:Nat)(p n:Int):Ok (aYB d f p n)/\Sh d (aYB d f p n):=by
 unfold aYB;split
 ·exact⟨h,Sh.refl d⟩
 ·cases(!(sF false 3 (_ ||| _)==0)&&_==0) with
  |false=>exact⟨h,Sh.refl d⟩
  |true=>exact⟨aYC (aY0 h _ _) _ _ _,(Sh.rb d _ _).trans (Sh.re _ _ _ _)⟩
theorem bC3 {c:Dc} (h:Ok c)(f:Nat)(p:Int):Ok (bC2 c f p)/\Sh c (bC2 c f p):=by
 unfold bC2;split
 ·exact aRP h _ _ _
 ·cases((mU c f p 0 ((c.zo.length:Int)-1) true).2.2==0) with
  |false=>exact⟨h,Sh.refl c⟩
  |true=> obtain⟨e,h2⟩:=aRP (aDY h f p 0 ((c.zo.length:Int)-1) true) f p (mU c f p 0 ((c.zo.length:Int)-1) true).2.1;exact⟨e,(Sh.mU c _ _ _ _ _).trans h2⟩
theorem aRO {c:Dc} (h:Ok c)(f:Nat)(ps:List Int):∀k,Ok (bC4 c f ps k)/\Sh c (bC4 c f ps k)
 |0=>⟨h,Sh.refl c⟩
 |k+1=>by obtain⟨e,h2⟩:=aRO h f ps k;obtain⟨j,h4⟩:=bC3 e f (ps.getD k 0);exact⟨j,h2.trans h4⟩
end Go.Proofs.YtmhapcbjjpadnaaGreat
