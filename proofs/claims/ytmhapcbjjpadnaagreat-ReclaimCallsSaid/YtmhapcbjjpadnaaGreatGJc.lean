/- Caches. -/
import Derived.Test.YtmhapcbjjpadnaaGreatGIc
import Derived.Test.YtmhapcbjjpadnaaGreatGHc
import Derived.Test.YtmhapcbjjpadnaaGreatXRKc
import Derived.Test.YtmhapcbjjpadnaaGreatG8c
import Derived.Test.YtmhapcbjjpadnaaGreatGGc
import Derived.Test.YtmhapcbjjpadnaaGreatK8c
import Derived.Test.YtmhapcbjjpadnaaGreatXRNc
set_option linter.all false
set_option maxHeartbeats 8000000
set_option maxRecDepth 40000
open Int renaming toNat_natCast→zG
open List renaming length_set→zA,length_append→zC,take_of_length_le→zH,getElem?_eq_none→zI,map_set→zK
open Nat renaming pow_lt_pow_right→zD,zero_le→zE,or_lt_two_pow→zF,le_refl→zJ
namespace Go.Proofs.YtmhapcbjjpadnaaGreat
open Go Go.Sk Go.RowKit
theorem bJQ(c:Dc)(n:Nat)(u:Us)(j:SmD c)(h:qF (c.setU n u) n u):aM Tryz.prog 155 [] [.agg c.c,.int .i64 ((n+1:Nat):Int),.agg u.c] (.agg (c.put n u).o) (c.put n u).ob:=by
 have B:n<c.fr.length:=by have :=h.at_;simpa [Dc.setU] using this
 have C:SmD (c.setU n u):=⟨j.fl,by show(c.fr.set n (some u)).length<=64;rw [zA];exact j.fr,j.gr,j.ls,j.ck⟩;have e:=bHC (c.setU n u) n u C h;have D:=aIV c j;unfold Dc.put;obtain⟨G,f,R,gr,M,E,O⟩:=c;have z:=j.fr;dsimp only at B z
 have m:(aO f).set n (aS 9 ((aO f).getD n []) 0 u.c)=aO (f.set n (some u)):=by
  rw [cC f n B];have :aS 9 (frC (f.getD n none)) 0 u.c=u.c:=by cases f.getD n none <;> rfl
  rw [this];unfold aO;rw [zK];rfl
 generalize W:(Dc.setU ⟨G,f,R,gr,M,E,O⟩ n u).mark u=q at e⊢;obtain⟨H,J,T,K,N,F,Q⟩:=q;unfold Dc.o Dc.ob Dc.setU at e;unfold Dc.o Dc.ob;dsimp only at e⊢;rw [zA,<-m] at e;refine cK Tryz.func155 ?_;refine Wk ?_;refine .inr ⟨λ_=>⟨[],_,_,_,D,trivial,rfl,rfl,rfl,?_⟩,(by intro h;cases h)⟩
 refine Wk ?_;rw [aP (n:=((n+1:Nat):Int)-1) (by omega) (by omega),show((n+1:Nat):Int)-1=(n:Int) by omega,show decide (0<=(n:Int)/\(n:Int)< (f.length:Int))=true from zdt ⟨by omega,by omega⟩];refine Wk ?_;rw [show 0+(n:Int).toNat=n by omega,show decide (n< (aO f).length)=true from zdt (by rw [bX];exact B)];refine Wk ?_;refine .inr ⟨λ_=>⟨[3,4,5,6,7],_,_,_,e,⟨rfl,rfl,rfl,rfl,rfl,trivial⟩,rfl,rfl,rfl,?_⟩,(by intro h;cases h)⟩
 refine Wk ?_;exact⟨[some 3,some 4,some 5,some 6,some 7],Cl,rfl,Cl,rfl,Cl⟩
theorem Ok.p155q {c:Dc} (h:Ok c) {n:Nat} {u u':Us} (e:n<c.fr.length)(B:c.fr.getD n none=some u)(j:lO u'=lO u)(m:fQ u'.p)(z:u'.rd<4)(C:u'.wr<4):aM Tryz.prog 155 [] [.agg c.c,.int .i64 ((n+1:Nat):Int),.agg u'.c] (.agg (c.put n u').o) (c.put n u').ob:=by
 have k:=h.use n u e B;have f:=h.file _ k.file;simp only [lO,Prod.mk.injEq] at j;obtain⟨k1,k2,k3⟩:=j;refine bJQ c n u' h.sm ⟨by show n< (c.fr.set n (some u')).length;rw [zA];exact e,aH _ _ _ _ e,?_,?_,?_,?_,?_,m,?_,z,C⟩
 ·rw [k1];exact k.file
 ·rw [k2];have :=k.page;omega
 ·show bI (c.fl.getD u'.file aZ).E;rw [k1];exact f.E
 ·show Sup (c.fl.getD u'.file aZ).E;rw [k1];exact f.sup
 ·show 0< ((c.fl.getD u'.file aZ).E u'.page).1;rw [k1,k2,k.val];omega
 ·rw [k3];show u.ten<c.ls.length;rw [h.nl];exact k.ten
def mS(s:Nat):Nat×Nat:=bif s==1 then(0,1) else bif s==2 then(1,1) else(0,2)
theorem bHF(s:Nat):aM Tryz.prog 277 [] [.int .i64 (s:Int)] (.tup [.int .i64 ((mS s).1:Int),.int .i64 ((mS s).2:Int)]) []:=by
 unfold mS
 by_cases e1:s=1
 ·subst e1;refine aE (ob0:= []) [] Tryz.func277 rfl rfl rfl rfl ?_;exact Wz
 ·rw [zbn.2 e1,zcf]
  by_cases e:s=2
  ·subst e;refine aE (ob0:= []) [] Tryz.func277 rfl rfl rfl rfl ?_;exact Wz
  ·rw [zbn.2 e,zcf];refine aE (ob0:= []) [] Tryz.func277 rfl rfl rfl rfl ?_;exact Wz
theorem bKM(s:Int):aM Tryz.prog 356 [] [.int .i64 s] (.bool (decide (0<=s/\s<7))) []:=by
 have k:=bH3
 by_cases e1:0<=s
 ·by_cases e:s<7
  ·rw [zdt (show 0<=s/\s<7 from⟨e1,e⟩)];refine aE (ob0:= []) [] Tryz.func356 rfl rfl rfl rfl ?_;exact Wz
  ·rw [zdf (show ¬(0<=s/\s<7) by omega)];refine aE (ob0:= []) [] Tryz.func356 rfl rfl rfl rfl ?_;exact Wz
 ·rw [zdf (show ¬(0<=s/\s<7) by omega)];refine aE (ob0:= []) [] Tryz.func356 rfl rfl rfl rfl ?_;exact Wz
def psF(s:Int)(p:Nat):Int:=bif decide (0<=s/\s<7) then s*18+2+p*2 else -1
theorem bKQ(s:Int)(p:Nat)(f:p<8): -1<=psF s p/\psF s p<=1000:=by
 unfold psF
 by_cases e:0<=s/\s<7
 ·rw [zdt e,zct];omega
 ·rw [zdf e,zcf];omega
theorem bKK(s:Int)(p:Nat)(f:p<8):aM Tryz.prog 332 [] [.int .i64 s,.int .i64 (p:Int)] (.int .i64 (psF s p)) []:=by
 have k:=bKM s;unfold psF
 by_cases e:0<=s/\s<7
 ·rw [zdt e] at k;rw [zdt e,zct];obtain⟨s,rfl⟩:∃t:Nat,s=(t:Int):=⟨s.toNat,by omega⟩;have :(s:Int)*18+2+p*2=((s*18+2+p*2:Nat):Int):=by omega
  rw [this];exact bQG s p (by omega) f
 ·rw [zdf e] at k;rw [zdf e,zcf];refine aE (ob0:= []) [] Tryz.func332 rfl rfl rfl rfl ?_;exact Wz
def aRL(dev ten sec cnt kind:Int)(d:ByteArray):V:=.agg [.int .i64 0,.int .i64 ten,.int .i64 dev,.int .i64 kind,.int .i64 sec,.int .i64 cnt,.str d,.bool false,.bool false,.int .i64 0]
theorem bPT(c:Dc)(h:Ok c)(m:Nat)(u:Us)(z:m<c.fr.length)(h2:c.fr.getD m none=some u)(s:Nat):
 aM Tryz.prog 276 [] [.agg c.c,.int .i64 ((m+1:Nat):Int),.int .i64 (s:Int)] (aRL (c.fl.getD u.file aZ).dev (u.ten:Int) (psF (c.fl.getD u.file aZ).slot u.page+((mS s).1:Int)) ((mS s).2:Int) 0 ⟨#[]⟩) []:=by
 have C:=h.use m u z h2;have G:=qA z h2;have H:=h.nr;have B:=C.file;have j:=aAA B;obtain⟨k0,k1,k2,k3,f,-⟩:=Df.cells (h.file _ B).E;rw [f] at j;have e:=C.page;have D:=bHF s;have F:=bKK (c.fl.getD u.file aZ).slot u.page e;have J:=bKQ (c.fl.getD u.file aZ).slot u.page e;have K:(mS s).1<=1:=by unfold mS;cases(s==1)<;> cases(s==2)<;> decide
 generalize psF (c.fl.getD u.file aZ).slot u.page=M at *;generalize mS s=N at *;unfold aRL;refine aE (ob0:= []) [] Tryz.func276 rfl rfl rfl rfl ?_;exact Wz
def aXS(u:Us)(s:Nat):Us:=⟨u.file,u.page,aQJ u.p s,u.ten,u.holds,u.rd,s⟩
def nT(c:Dc)(u:Us):Nat:=bif sS (c.fl.getD u.file aZ).blocks u.page then 3 else u.p.d
def bCE(c:Dc)(m:Nat)(u:Us):Dc:=(c.put m (aXS u (nT c u))).pts (c.pt.map (aC2 ((m+1:Nat):Int)))
def bGL:V:=aRL 0 0 0 0 0 ⟨#[]⟩
theorem aKZ {c:Dc} {u:Us} (h:fQ u.p):nT c u<4:=by
 unfold nT;have :=h.d
 cases sS (c.fl.getD u.file aZ).blocks u.page with
 |true=>rw [zct];omega
 |false=>rw [zcf];exact this
theorem bE0 {l:List Pt} (h:kU l=true)(f:Int):kU (l.map (aC2 f))=true:=by
 obtain⟨e,j⟩:=(kY l).1 h;have e1:∀x,dZ (aC2 f x)=dZ x:=λx=>by unfold aC2;cases(x.frame==f)<;> rfl
 have m:∀x,eN (aC2 f x)=eN x:=λx=>by unfold aC2;cases(x.frame==f)<;> rfl
 refine(kY _).2 ⟨λx z=>?_,List.pairwise_map.2 (j.imp λh=>by rw [e1,e1];exact h)⟩;obtain⟨y,B,rfl⟩:=List.mem_map.1 z;rw [m];exact e y B
theorem bCF {c:Dc} (h:Ok c) {m:Nat} {u:Us} (f:m<c.fr.length)(h2:c.fr.getD m none=some u):Ok (bCE c m u):=by have e:=h.use m u f h2;exact(h.put f h2 (u':=aXS u (nT c u)) rfl (aJ8 e.pg (aKZ e.pg)) e.holds e.rd (aKZ e.pg)).pts (bE0 h.pt _)
theorem bJV(c:Dc)(n:Int)(f:SmD c)(j:fK c n=false):aM Tryz.prog 178 [] [.agg c.c,.int .i64 n] (.tup [.agg c.c,bGL,.int .i64 2]) []:=by have e:=aBX c n f;rw [j] at e;refine aE (ob0:= []) [] Tryz.func178 rfl rfl rfl rfl ?_;exact Wz
theorem aZY(c:Dc)(h:Ok c)(m:Nat)(u:Us)(f:m<c.fr.length)(h2:c.fr.getD m none=some u)(j:u.wr≠0\/u.p.d=0):
 aM Tryz.prog 178 [] [.agg c.c,.int .i64 ((m+1:Nat):Int)] (.tup [.agg c.c,bGL,.int .i64 (bif u.wr==0 then 4 else 7)]) []:=by
 have C:=h.use70 f h2;have z:=qA f h2;have B:=h.nr
 by_cases b:u.wr=0
 ·rw [zbe.2 b,zct];have D:u.p.d=0:=j.resolve_left (λe=>e b);refine aE (ob0:= []) [] Tryz.func178 rfl rfl rfl rfl ?_;exact Wz
 ·rw [zbn.2 b,zcf];refine aE (ob0:= []) [] Tryz.func178 rfl rfl rfl rfl ?_;exact Wz
theorem bP0(c:Dc)(h:Ok c)(m:Nat)(u:Us)(F:m<c.fr.length)(h2:c.fr.getD m none=some u)(hw:u.wr=0)(hd:u.p.d≠0):
 ∃x1 x2 x3 x4 x5 x6,aM Tryz.prog 178 [] [.agg c.c,.int .i64 ((m+1:Nat):Int)] (.tup [.agg (bCE c m u).c,aRL x1 x2 x3 x4 x5 x6,.int .i64 0]) []:=by
 have ad:=h.use70 F h2;have j:=h.use m u F h2;have aa:=qA F h2;have ab:=h.nr;have Q:=j.file;have M:=aAA Q;have T:=h.file _ Q;obtain⟨k0,k1,k2,k3,K,-⟩:=Df.cells T.E;rw [K] at M;have N:=j.page;have ac:=j.pg.size;have Z:=j.pg.d;have f:=aKZ (c:=c) j.pg;have B:=bPT c h m u F h2 (nT c u);have C:=bHF (nT c u);have D:=bPU u.p j.pg (nT c u) f;have z:=h.p155 (u':=aXS u (nT c u)) F h2 rfl (aJ8 j.pg f) j.rd f
 have R:=bPV c.pt ((m+1:Nat):Int) h.pt h.ptl;have H:(mS (nT c u)).1+(mS (nT c u)).2<=2:=by unfold mS;cases(nT c u==1)<;> cases(nT c u==2)<;> decide
 have Y:=T.blocks;refine⟨(c.fl.getD u.file aZ).dev,(u.ten:Int),psF (c.fl.getD u.file aZ).slot u.page+((mS (nT c u)).1:Int),((mS (nT c u)).2:Int),2,u.p.b.extract ((mS (nT c u)).1*8) (((mS (nT c u)).1+(mS (nT c u)).2)*8),?_⟩;generalize psF (c.fl.getD u.file aZ).slot u.page=ps at *;generalize mS (nT c u)=sp at *;have G:sS (c.fl.getD u.file aZ).blocks u.page=((((c.fl.getD u.file aZ).blocks &&& 2^u.page:Nat):Int)==0):=rfl;have W:2^u.page<2^8:=zD (by omega) N;unfold bCE aXS at *
 unfold aRL at *
 cases J:sS (c.fl.getD u.file aZ).blocks u.page with
 |true=>
  have O:nT c u=3:=by unfold nT;rw [J];rfl
  simp only [O] at B C D z f H⊢;rw [J] at G;generalize c.put m _=e at *;refine aE (ob0:= []) [] Tryz.func178 rfl rfl rfl rfl ?_;exact Wz
 |false=>
  have O:nT c u=u.p.d:=by unfold nT;rw [J];rfl
  simp only [O] at B C D z f H⊢;rw [J] at G;generalize c.put m _=e at *;refine aE (ob0:= []) [] Tryz.func178 rfl rfl rfl rfl ?_;exact Wz
def fer(f:Df)(a b:Int):Df:=⟨f.dev,f.slot,f.E,f.size,f.blocks,a,b⟩
def onB(b p:Nat):Nat:=b ||| 2^p
def Dc.blo(c:Dc)(f p:Nat):Dc:=⟨c.fl.set f (fbl (c.fl.getD f aZ) (onB (c.fl.getD f aZ).blocks p)),c.fr,c.zo,c.gr,c.ls,c.ck,c.pt⟩
def Dc.ers(c:Dc)(f:Nat)(e:Int):Dc:=⟨c.fl.set f (fer (c.fl.getD f aZ) (aDO (c.fl.getD f aZ).ec (c.fl.getD f aZ).ee e).1 (aDO (c.fl.getD f aZ).ec (c.fl.getD f aZ).ee e).2),c.fr,c.zo,c.gr,c.ls,c.ck,c.pt⟩
theorem Ok.fl1 {c:Dc} (h:Ok c) {f:Nat} (z:f<c.fl.length) {x:Df} (j:OkF x)(B:x.E=(c.fl.getD f aZ).E):Ok ⟨c.fl.set f x,c.fr,c.zo,c.gr,c.ls,c.ck,c.pt⟩:=by
 refine h.same (zA ..) (λg q=>?_) (λg hg=>?_) rfl (λ_=>rfl) (λm v C D=>?_) rfl rfl rfl h.ls (λ_ _ j=>j) rfl h.pt
 ·show(((c.fl.set f x).getD g aZ).E q).1=_
  by_cases e:g=f
  ·subst e;rw [aH _ _ _ _ z,B]
  ·rw [getD_set_ne _ _ _ e]
 ·show OkF ((c.fl.set f x).getD g aZ)
  by_cases e:g=f
  ·subst e;rw [aH _ _ _ _ z];exact j
  ·rw [getD_set_ne _ _ _ e];exact h.file g hg
 ·have :=h.use m v C D;exact⟨this.pg,this.holds,this.rd,this.wr⟩
theorem Ok.blo {c:Dc} (h:Ok c) {f p:Nat} (e:f<c.fl.length)(j:p<8):Ok (c.blo f p):=by have k:=h.file f e;exact h.fl1 e ⟨k.E,k.sup,k.lo,k.size,zF (n:=8) k.blocks (zD (by omega) j),k.ec,k.ee⟩ rfl
theorem bEI {a b e:Int} (h:0<=a/\a<=1000000)(h2:a=0↔b=0)(f:e≠0):(0<=(aDO a b e).1/\(aDO a b e).1<=1000000)/\((aDO a b e).1=0↔(aDO a b e).2=0):=by
 unfold aDO
 by_cases x:a=1000000
 ·rw [zbe.2 x,zct];exact⟨h,h2⟩
 ·rw [zbn.2 x,zcf];dsimp only;exact⟨by omega,by omega⟩
theorem Ok.ers {c:Dc} (h:Ok c) {f:Nat} (j:f<c.fl.length) {e:Int} (m:e≠0):Ok (c.ers f e):=by have k:=h.file f j;obtain⟨z,B⟩:=bEI k.ec k.ee m;exact h.fl1 j ⟨k.E,k.sup,k.lo,k.size,k.blocks,z,B⟩ rfl
theorem bR7 {L:List Df} {f:Nat} {a b:Int} (h:f<L.length)(m:bI (L.getD f aZ).E):aX (L.set f (fer (L.getD f aZ) a b))=(aX L).set f (aS 15 (L.getD f aZ).c 8 [.int .i64 a,.int .i64 b]):=by
 rw [aX,aX,zK];obtain⟨k0,k1,k2,k3,e,j⟩:=Df.cells m
 congr 1
 unfold Df.c fer;dsimp only;rw [j];rfl
def aCX(u:Us)(e:Int):Us:=⟨u.file,u.page,bif e==0 then u.p else aES u.p u.wr,u.ten,u.holds,u.rd,0⟩
def aQS(c:Dc)(m:Nat)(u:Us)(e:Int):Dc:=bif e==0 then(c.put m (aCX u e)).blo u.file u.page else(c.put m (aCX u e)).ers u.file e
theorem aL7 {u:Us} (h:fQ u.p)(f:u.wr<4)(e:Int):fQ (aCX u e).p:=by
 unfold aCX
 cases(e==0) with
 |true=>exact h
 |false=>exact aCE h f
theorem bCT {c:Dc} (h:Ok c) {m:Nat} {u:Us} (j:m<c.fr.length)(h2:c.fr.getD m none=some u)(e:Int):Ok (aQS c m u e):=by
 have f:=h.use m u j h2;have B:=h.put j h2 (u':=aCX u e) rfl (aL7 f.pg f.wr e) f.holds f.rd (by show 0<4;omega);have z:u.file< (c.put m (aCX u e)).fl.length:=by rw [vV];exact f.file
 unfold aQS
 by_cases x:e=0
 ·rw [zbe.2 x];exact B.blo z f.page
 ·rw [zbn.2 x];exact B.ers z x
theorem bJT(c:Dc)(n e:Int)(j:SmD c)(m:fK c n=false):aM Tryz.prog 177 [] [.agg c.c,.int .i64 n,.int .i64 e] (.tup [.agg c.c,.int .i64 2]) []:=by have f:=aBX c n j;rw [m] at f;refine aE (ob0:= []) [] Tryz.func177 rfl rfl rfl rfl ?_;exact Wz
theorem bJS(c:Dc)(h:Ok c)(m:Nat)(u:Us)(f:m<c.fr.length)(h2:c.fr.getD m none=some u)(C:u.wr=0)(e:Int):
 aM Tryz.prog 177 [] [.agg c.c,.int .i64 ((m+1:Nat):Int),.int .i64 e] (.tup [.agg c.c,.int .i64 4]) []:=by
 have B:=h.use70 f h2;have j:=qA f h2;have z:=h.nr;refine aE (ob0:= []) [] Tryz.func177 rfl rfl rfl rfl ?_;exact Wz
theorem bOZ(c:Dc)(h:Ok c)(m:Nat)(u:Us)(F:m<c.fr.length)(h2:c.fr.getD m none=some u)(hw:u.wr≠0)(e:Int):
 aM Tryz.prog 177 [] [.agg c.c,.int .i64 ((m+1:Nat):Int),.int .i64 e] (.tup [.agg (aQS c m u e).c,.int .i64 0]) []:=by
 have Z:=h.use70 F h2;have j:=h.use m u F h2;have T:=qA F h2;have W:=h.nr;have R:=j.file;have O:=j.page;have Q:=aZX u.p j.pg u.wr j.wr;have z:=h.p155q (u':=aCX u e) F h2 rfl (aL7 j.pg j.wr e) j.rd (by show 0<4;omega);have o:=h.put F h2 (u':=aCX u e) rfl (aL7 j.pg j.wr e) j.holds j.rd (by show 0<4;omega);have B:u.file< (c.put m (aCX u e)).fl.length:=by rw [vV];exact R
 have J:2^u.page<2^8:=zD (by omega) O;unfold aQS;generalize hd:c.put m (aCX u e)=d at *;have D:=o.file _ B;have N:=aAA B;have K:=D.blocks;have G:=bAN (b:=onB (d.fl.getD u.file aZ).blocks u.page) B D.E;have H:=bR7 (a:=(aDO (d.fl.getD u.file aZ).ec (d.fl.getD u.file aZ).ee e).1) (b:=(aDO (d.fl.getD u.file aZ).ec (d.fl.getD u.file aZ).ee e).2) B D.E;have Y:=zF (n:=8) K J;have C:=λhe=>bPS (d.fl.getD u.file aZ).ec (d.fl.getD u.file aZ).ee e D.ec.1 D.ec.2 D.ee he
 obtain⟨k0,k1,k2,k3,M,-⟩:=Df.cells D.E;rw [M] at N G H;have f:=o.sm;have g1:=f.fl;have g2:=f.fr;have g3:=f.gr;have g4:=f.ls;have g5:=f.ck;unfold aCX at z
 by_cases x:e=0
 ·rw [zbe.2 x,zct];rw [zbe.2 x,zct] at z;subst x;unfold Dc.blo;simp only [Dc.c,G];unfold onB;refine aE (ob0:= []) [] Tryz.func177 rfl rfl rfl rfl ?_;exact Wz
 ·rw [zbn.2 x,zcf];rw [zbn.2 x,zcf] at z;have C:=C x;unfold Dc.ers;simp only [Dc.c,H];generalize aDO (d.fl.getD u.file aZ).ec (d.fl.getD u.file aZ).ee e=r at *;refine aE (ob0:= []) [] Tryz.func177 rfl rfl rfl rfl ?_;exact Wz
theorem draw(L:List Int) {J:Nat} (m:(L.length:Int)<2^62)(j:J<=L.length)(n:Int)(f:0<n)(z:n<1000000000):
 ∃v e:Nat,(v:Int)<n/\e<=L.length/\aM Tryz.prog 15 [oT L J] [.ptr 0 0 0,.int .i64 n] (.int .i64 (v:Int)) [oT L e]:=by
 have a:=aZO L J n f (by omega);refine⟨(nxV L J n).toNat,nxI L J,by omega,aZN L J j,?_⟩;rw [show(((nxV L J n).toNat:Nat):Int)=nxV L J n by omega];exact bGV L J n m j f (by omega)
def fX(l:List (Option Us)):Nat->List Int
 |0=> []
 |k+1=>bif (l.getD k none).isSome then fX l k++ [((k+1:Nat):Int)] else fX l k
theorem aDX {l:List (Option Us)} :∀ {k:Nat} {x:Int},x∈fX l k->∃(m:Nat) (u:Us),x=((m+1:Nat):Int)/\m<k/\l.getD m none=some u
 |0,x,h=>by simp [fX] at h
 |k+1,x,h=>by
  rw [fX] at h
  cases e:l.getD k none with
  |none=> rw [e] at h;obtain⟨m,u,f,h2,j⟩:=aDX (k:=k) h;exact⟨m,u,f,by omega,j⟩
  |some u=>
   rw [e] at h;rcases List.mem_append.1 h with h |h
   ·obtain⟨m,u,f,h2,j⟩:=aDX (k:=k) h;exact⟨m,u,f,by omega,j⟩
   ·exact⟨k,u,List.mem_singleton.1 h,by omega,e⟩
theorem vZ(l:List (Option Us)):∀k,(fX l k).length<=k
 |0=>zJ 0
 |k+1=>by
  rw [fX];have :=vZ l k
  cases(l.getD k none).isSome with
  |true=>rw [zct,zC,List.length_singleton];omega
  |false=>rw [zcf];omega
theorem aDQ(a:List Int)(x:Int):aB (a++ [x])=aB a++ [[.int .i64 x]]:=by simp [aB]
theorem aJX(c:Dc)(h:Ok c)(L:List Int) {J:Nat} (H:(L.length:Int)<2^62)(F:J<=L.length):
 ∃(r:Int) (C:Nat),C<=L.length/\(r=0\/∃(m:Nat) (u:Us),r=((m+1:Nat):Int)/\m<c.fr.length/\c.fr.getD m none=some u)/\
  aM Tryz.prog 281 [oT L J] [.ptr 0 0 0,.agg c.c] (.int .i64 r) [oT L C]:=by
 have N:=h.nr;have G:=vZ c.fr c.fr.length
 by_cases e:(fX c.fr c.fr.length).length=0
 ·refine⟨0,J,F,.inl rfl,?_⟩;refine aE (ob0:= [oT L J]) [] Tryz.func281 rfl rfl rfl rfl ?_;refine Wx ?_;refine Lp (λi:Nat=>i<=c.fr.length) (λi=> [(6,.int .i64 ((i+1:Nat):Int)),(5,.sl 2 0 (fX c.fr i).length)]) (λi=> [(2,.row 1 (aB (fX c.fr i)))]) (λi=>c.fr.length-i) 0 (zE _) ?_ ?_
  ·exact Vr [_,_,none]
  intro i M;have E:=vZ c.fr i;have f:fX c.fr (i+1)=bif (c.fr.getD i none).isSome then fX c.fr i++ [((i+1:Nat):Int)] else fX c.fr i:=rfl
  refine Wx ?_;refine gE (λb=>?_) (λb=>?_)
  ·have b:i<c.fr.length:=by omega
   have hg:=cC c.fr i b;generalize fX c.fr i=U at *
   cases B:c.fr.getD i none with
   |none=> rw [B] at hg f;have hg:(aO c.fr).getD i []=fre.c:=hg;have f:fX c.fr (i+1)=U:=f;refine Wx ?_;refine Le (i+1) (hv:=?_);simp only [f];exact Vr [_,_,_]
   |some u=> rw [B] at hg f;have hg:(aO c.fr).getD i []=u.c:=hg;have f:fX c.fr (i+1)=U++ [((i+1:Nat):Int)]:=f;refine Wx ?_;refine Le (i+1) (hv:=?_);simp only [f,aDQ];exact Vr [_,_,_]
  obtain rfl:i=c.fr.length:=by omega
  exact Wo
 ·obtain⟨v,C,j,D,O⟩:=draw L H F ((fX c.fr c.fr.length).length:Int) (by omega) (by omega);have j:v< (fX c.fr c.fr.length).length:=by omega
  have K:=aC9 j;have z:(fX c.fr c.fr.length).getD v 0∈fX c.fr c.fr.length:=by rw [List.getD_eq_getElem?_getD,List.getElem?_eq_getElem j];exact List.getElem_mem j
  obtain⟨m,u,Q,R,T⟩:=aDX z;refine⟨(fX c.fr c.fr.length).getD v 0,C,D,.inr ⟨m,u,Q,R,T⟩,?_⟩;refine aE (ob0:= [oT L J]) [] Tryz.func281 rfl rfl rfl rfl ?_;refine Wx ?_;refine Lp (λi:Nat=>i<=c.fr.length) (λi=> [(6,.int .i64 ((i+1:Nat):Int)),(5,.sl 2 0 (fX c.fr i).length)]) (λi=> [(2,.row 1 (aB (fX c.fr i)))]) (λi=>c.fr.length-i) 0 (zE _) ?_ ?_
  ·exact Vr [_,_,none]
  intro i M;have E:=vZ c.fr i;have f:fX c.fr (i+1)=bif (c.fr.getD i none).isSome then fX c.fr i++ [((i+1:Nat):Int)] else fX c.fr i:=rfl
  refine Wx ?_;refine gE (λb=>?_) (λb=>?_)
  ·have b:i<c.fr.length:=by omega
   have hg:=cC c.fr i b;generalize fX c.fr i=U at *
   cases B:c.fr.getD i none with
   |none=> rw [B] at hg f;have hg:(aO c.fr).getD i []=fre.c:=hg;have f:fX c.fr (i+1)=U:=f;refine Wx ?_;refine Le (i+1) (hv:=?_);simp only [f];exact Vr [_,_,_]
   |some u=> rw [B] at hg f;have hg:(aO c.fr).getD i []=u.c:=hg;have f:fX c.fr (i+1)=U++ [((i+1:Nat):Int)]:=f;refine Wx ?_;refine Le (i+1) (hv:=?_);simp only [f,aDQ];exact Vr [_,_,_]
  obtain rfl:i=c.fr.length:=by omega
  exact Wo
def tT(f p:Nat)(i:Nat):List UInt8:=(List.range 16).map λj=>bif decide (j<i) then UInt8.ofNat (65+(f*7+p*3+j)%26) else 0
theorem qI(f p i:Nat):(tT f p i).length=16:=by simp [tT]
theorem aVL(f p i:Nat)(hi:i<16):tT f p (i+1)=(tT f p i).set i (UInt8.ofNat (65+(f*7+p*3+i)%26)):=by
 apply List.ext_getElem?;intro j
 by_cases m:j<16
 ·rw [List.getElem?_set]
  by_cases e:i=j
  ·subst e;rw [if_pos rfl,if_pos (by rw [qI];exact m)];simp [tT,m]
  ·rw [if_neg e];simp only [tT,List.getElem?_map,List.getElem?_range m,Option.map_some];rw [show decide (j<i+1)=decide (j<i) by rw [decide_eq_decide];omega]
 ·rw [zI (by rw [qI];omega),zI (by rw [zA,qI];omega)]
def tU(f p:Nat):ByteArray:=⟨(tT f p 16).toArray⟩
theorem aWO(l:List UInt8)(i:Nat)(b:UInt8):(jT l).set i [.int .u8 (b.toNat:Int)]=jT (l.set i b):=by unfold jT;rw [zK]
theorem aVK(f p:Nat):iO (List.take 16 (List.drop 0 (jT (tT f p 16))))=some (tT f p 16):=by rw [List.drop_zero,zH (by rw [nN,qI];omega)];exact kX _
theorem bRQ {n:Nat} (h:n<256):IntKind.u8.wrap (n:Int)=((UInt8.ofNat n).toNat:Int):=by rw [IntKind.wrap_u8,UInt8.toNat_ofNat'];omega
theorem bGW(f p:Nat)(B:f<=100)(E:p<=100):aM Tryz.prog 160 [] [.int .i64 (f:Int),.int .i64 (p:Int)] (.str (tU f p)) []:=by
 have z:=aVK f p;unfold tU;refine aE (ob0:= []) [] Tryz.func160 rfl rfl rfl rfl ?_;refine Wx ?_;refine Lp (λi:Nat=>i<=16) (λi=> [(10,.int .i64 (i:Int))]) (λi=> [(0,.row 1 (jT (tT f p i)))]) (λi=>16-i) 0 (zE _) ?_ ?_
 ·exact Vr [_]
 intro i C;have D:=qI f p i;have e:=nN (tT f p i);refine Wx ?_;refine gE (λb=>?_) (λb=>?_)
 ·have j:=aVL f p i (by omega);have m:=bRQ (n:=65+(f*7+p*3+i)%26) (by omega);refine Wx ?_;refine Le (i+1) (hv:=?_);simp only [j,<-aWO,<-m];exact Vr [_]
 obtain rfl:i=16:=by omega
 exact Wz
def abc(v:Int):UInt8:=UInt8.ofNat (97+v.toNat)
def pT(L:List Int)(J:Nat):Nat->Nat×List UInt8
 |0=>(J,[])
 |k+1=>(nxI L (pT L J k).1,(pT L J k).2++ [abc (nxV L (pT L J k).1 8)])
theorem aB4(L:List Int) {J:Nat} (e:J<=L.length):∀k,(pT L J k).1<=L.length/\(pT L J k).2.length=k
 |0=>⟨e,rfl⟩
 |k+1=>by obtain⟨f,h2⟩:=aB4 L e k;exact⟨aZN L _ f,by rw [pT,zC,h2];rfl⟩
def aNA(L:List Int)(J n i:Nat):List (List V):=jT (pT L J i).2++List.replicate (n-i) [.int .u8 0]
theorem aNB(L:List Int) {J:Nat} (e:J<=L.length) {n i:Nat} (h:i<=n):(aNA L J n i).length=n:=by unfold aNA;rw [zC,nN,(aB4 L e i).2,List.length_replicate];omega
theorem aVB(L:List Int) {J:Nat} (f:J<=L.length) {n i:Nat} (h:i<n):aNA L J n (i+1)=(aNA L J n i).set i [.int .u8 ((abc (nxV L (pT L J i).1 8)).toNat:Int)]:=by have e:=(aB4 L f i).2;unfold aNA;rw [pT];obtain⟨k,j⟩:∃k,n-i=k+1:=⟨n-i-1,by omega⟩;rw [j,show n- (i+1)=k by omega,List.replicate_succ,List.set_append,if_neg (by rw [nN,e];omega),nN,e,Nat.sub_self,List.set_cons_zero];simp [jT]
theorem aXV(L:List Int) {J:Nat} (e:J<=L.length)(n:Nat):iO (List.take n (List.drop 0 (aNA L J n n)))=some (pT L J n).2:=by rw [List.drop_zero,zH (by rw [aNB L e (zJ n)];omega)];unfold aNA;rw [Nat.sub_self,List.replicate_zero,List.append_nil];exact kX _
theorem bT5(L:List Int) {J:Nat} (C:(L.length:Int)<2^62)(e:J<=L.length)(n:Nat)(N:n<=1000):
 ∃(s:ByteArray) (j:Nat),s.size=n/\j<=L.length/\aM Tryz.prog 48 [oT L J] [.ptr 0 0 0,.int .i64 (n:Int)] (.str s) [oT L j]:=by
 have z:=aB4 L e n;refine⟨⟨(pT L J n).2.toArray⟩,(pT L J n).1,by show(pT L J n).2.toArray.size=n;rw [List.size_toArray];exact z.2,z.1,?_⟩;have m:=aXV L e n;refine aE (ob0:= [oT L J]) [] Tryz.func48 rfl rfl rfl rfl ?_;refine Wx ?_;rw [mkT (by omega) (by omega)];refine Wx ?_;refine Lp (λi:Nat=>i<=n) (λi=> [(11,.int .i64 (i:Int))]) (λi=> [(0,oT L (pT L J i).1),(1,.row 1 (aNA L J n i))]) (λi=>n-i) 0 (zE _) ?_ ?_
 ·exact Vr [_,_]
 intro i D;have M:=aNB L e D;obtain⟨f1,f2⟩:=aB4 L e i;refine Wx ?_;refine gE (λb=>?_) (λb=>?_)
 ·have E:=aVB L e (show i<n by omega);have G:=bGV L (pT L J i).1 8 C f1 (by decide) (by decide);have F:=aZO L (pT L J i).1 8 (by decide) (by decide);have f:(pT L J (i+1)).1=nxI L (pT L J i).1:=rfl;generalize nxV L (pT L J i).1 8=v at *;generalize nxI L (pT L J i).1=K at *;generalize(pT L J i).1=H at *;have B:v=0\/v=1\/v=2\/v=3\/v=4\/v=5\/v=6\/v=7:=by omega
  rcases B with rfl |rfl |rfl |rfl |rfl |rfl |rfl |rfl
  all_goals
   refine Wx ?_;refine Le (i+1) (hv:=?_);simp only [E,f];exact Vr [_,_]
 obtain rfl:i=n:=by omega
 exact Wo
def fW(c:Dc)(n:Int):Option (Nat×Us):=bif fK c n then(c.fr.getD (n-1).toNat none).map λu=>((n-1).toNat,u) else none
theorem cE(c:Dc)(n:Int):(fW c n=none/\fK c n=false)\/∃(m:Nat) (u:Us),fW c n=some (m,u)/\n=((m+1:Nat):Int)/\m<c.fr.length/\c.fr.getD m none=some u:=by
 unfold fW;rcases aRX c n with h | ⟨m,u,rfl,e,h2⟩
 ·rw [h];exact .inl ⟨rfl,rfl⟩
 ·refine .inr ⟨m,u,?_,rfl,e,h2⟩;rw [nJ e h2,show(((m+1:Nat):Int)-1).toNat=m by omega,h2];rfl
theorem Ok.goodS {c:Dc} (h:Ok c) {n:Nat} {u u':Us} (e:n<c.fr.length)(B:c.fr.getD n none=some u)(j:lO u'=lO u)(m:fQ u'.p)(z:u'.rd<4)(C:u'.wr<4):qF (c.setU n u') n u':=by
 have k:=h.use n u e B;have f:=h.file _ k.file;simp only [lO,Prod.mk.injEq] at j;obtain⟨k1,k2,k3⟩:=j;refine⟨by show n< (c.fr.set n (some u')).length;rw [zA];exact e,aH _ _ _ _ e,?_,?_,?_,?_,?_,m,?_,z,C⟩
 ·rw [k1];exact k.file
 ·rw [k2];have :=k.page;omega
 ·show bI (c.fl.getD u'.file aZ).E;rw [k1];exact f.E
 ·show Sup (c.fl.getD u'.file aZ).E;rw [k1];exact f.sup
 ·show 0< ((c.fl.getD u'.file aZ).E u'.page).1;rw [k1,k2,k.val];omega
 ·rw [k3];show u.ten<c.ls.length;rw [h.nl];exact k.ten
def evG(c:Dc)(n:Int):Dc×Int:=match fW c n with
 |none=>(c,2)
 |some (m,u)=>bif iJ u&&decide (u.p.d=0) then(c.evi m u,0) else(c,7)
theorem bAE(c:Dc)(h:Ok c)(n:Int):aM Tryz.prog 43 [] [.agg c.c,.int .i64 n] (.tup [.agg (evG c n).1.c,.int .i64 (evG c n).2]) []:=by
 unfold evG;rcases cE c n with ⟨e,j⟩| ⟨m,u,e,rfl,z,h2⟩
 ·rw [e];exact bQS c n h.sm j
 ·rw [e];dsimp only;have j:=h.use m u z h2
  cases f:(iJ u&&decide (u.p.d=0)) with
  |false=>exact bQR c m u h.sm z h2 f
  |true=> have f:=Bool.and_eq_true_iff.1 f;exact bT2 c m u h.sm (h.good z h2) j.ten h.gr h.smZ (h.smL _) h.pt h.ptl (by rw [h.nk];exact j.ten) (h.ck _) f.1 (of_decide_eq_true f.2)
theorem aYD {c:Dc} (h:Ok c)(n:Int):Ok (evG c n).1:=by
 unfold evG;rcases cE c n with ⟨e,j⟩| ⟨m,u,e,rfl,f,h2⟩
 ·rw [e];exact h
 ·rw [e];dsimp only
  cases(iJ u&&decide (u.p.d=0)) with
  |false=>exact h
  |true=>exact h.evi f h2
def aF9(c:Dc)(n k:Int):Dc×Int:=match fW c n with
 |none=>(c,2)
 |some (m,u)=>bif decide ((-255<=k/\k<=255)/\0<=(u.holds:Int)+k/\(u.holds:Int)+k<=255) then(c.put m (aH3 u ((u.holds:Int)+k).toNat),0) else(c,1)
theorem bQU(c:Dc)(h:Ok c)(n k:Int):aM Tryz.prog 45 [] [.agg c.c,.int .i64 n,.int .i64 k] (.tup [.agg (aF9 c n k).1.c,.int .i64 (aF9 c n k).2]) []:=by
 unfold aF9;rcases cE c n with ⟨e,f⟩| ⟨m,u,e,rfl,j,h2⟩
 ·rw [e];exact bQV c n k h.sm f
 ·rw [e];dsimp only;have f:=h.use m u j h2
  by_cases x:(-255<=k/\k<=255)/\0<=(u.holds:Int)+k/\(u.holds:Int)+k<=255
  ·rw [zdt x];exact bT3 c m u h.sm (h.good j h2) f.holds k x.1 x.2.1 x.2.2 (h.goodS j h2 rfl f.pg f.rd f.wr)
  ·rw [zdf x];exact bQT c m u h.sm (h.good j h2) f.holds k x
theorem bD5 {c:Dc} (h:Ok c)(n k:Int):Ok (aF9 c n k).1:=by
 unfold aF9;rcases cE c n with ⟨e,f⟩| ⟨m,u,e,rfl,j,h2⟩
 ·rw [e];exact h
 ·rw [e];dsimp only;have f:=h.use m u j h2
  by_cases x:(-255<=k/\k<=255)/\0<=(u.holds:Int)+k/\(u.holds:Int)+k<=255
  ·rw [zdt x];exact h.put j h2 rfl f.pg (by show((u.holds:Int)+k).toNat<=255;omega) f.rd f.wr
  ·rw [zdf x];exact h
def rbG(c:Dc)(n k:Int):Dc×Int:=match fW c n with
 |none=>(c,2)
 |some (m,u)=>bif decide ((1<=k/\k<=3)/\k.toNat &&& (u.p.v ||| u.rd)=0) then(c.put m (aEM u (u.rd ||| k.toNat)),0) else(c,1)
theorem or4 {a b:Nat} (e:a<4)(f:b<4):a ||| b<4:=zF (n:=2) e f
theorem bAF(c:Dc)(h:Ok c)(n k:Int):aM Tryz.prog 47 [] [.agg c.c,.int .i64 n,.int .i64 k] (.tup [.agg (rbG c n k).1.c,.int .i64 (rbG c n k).2]) []:=by
 unfold rbG;rcases cE c n with ⟨e,f⟩| ⟨m,u,e,rfl,z,h2⟩
 ·rw [e];exact bQX c n k h.sm f
 ·rw [e];dsimp only;have f:=h.use m u z h2
  by_cases x:(1<=k/\k<=3)/\k.toNat &&& (u.p.v ||| u.rd)=0
  ·rw [zdt x];obtain⟨k,rfl⟩:∃j:Nat,k=(j:Int):=⟨k.toNat,by omega⟩;rw [zG] at *;exact bT4 c m u h.sm (h.good z h2) k (by omega) x.2 (h.goodS z h2 rfl f.pg (or4 f.rd (by omega)) f.wr)
  ·rw [zdf x];exact bQW c m u h.sm (h.good z h2) k x
theorem aI4 {c:Dc} (h:Ok c)(n k:Int):Ok (rbG c n k).1:=by
 unfold rbG;rcases cE c n with ⟨e,f⟩| ⟨m,u,e,rfl,j,h2⟩
 ·rw [e];exact h
 ·rw [e];dsimp only;have f:=h.use m u j h2
  by_cases x:(1<=k/\k<=3)/\k.toNat &&& (u.p.v ||| u.rd)=0
  ·rw [zdt x];exact h.put j h2 rfl f.pg f.holds (or4 f.rd (by omega)) f.wr
  ·rw [zdf x];exact h
def reG(c:Dc)(n:Int)(d:ByteArray)(ok:Bool):Dc×Int:=match fW c n with
 |none=>(c,2)
 |some (m,u)=>aC8 c m u d ok
theorem bAG(c:Dc)(h:Ok c)(n:Int)(d:ByteArray)(ok:Bool):aM Tryz.prog 50 [] [.agg c.c,.int .i64 n,.str d,.bool ok] (.tup [.agg (reG c n d ok).1.c,.int .i64 (reG c n d ok).2]) []:=by
 unfold reG;rcases cE c n with ⟨e,j⟩| ⟨m,u,e,rfl,f,h2⟩
 ·rw [e];exact bQY c n d ok h.sm j
 ·rw [e];exact bT6 c h m u f h2 d ok
theorem bAY {c:Dc} (h:Ok c)(n:Int)(d:ByteArray)(ok:Bool):Ok (reG c n d ok).1:=by
 unfold reG;rcases cE c n with ⟨e,j⟩| ⟨m,u,e,rfl,f,h2⟩
 ·rw [e];exact h
 ·rw [e];exact bB0 h f h2 d ok
def bgG(c:Dc)(n:Int):Dc×Int:=match fW c n with
 |none=>(c,2)
 |some (m,u)=>bif u.wr==0 then(bif u.p.d==0 then(c,4) else(bCE c m u,0)) else(c,7)
theorem bJU(c:Dc)(h:Ok c)(n:Int):∃z B C D E F,aM Tryz.prog 178 [] [.agg c.c,.int .i64 n] (.tup [.agg (bgG c n).1.c,aRL z B C D E F,.int .i64 (bgG c n).2]) []:=by
 unfold bgG;rcases cE c n with ⟨e,j⟩| ⟨m,u,e,rfl,f,h2⟩
 ·rw [e];exact⟨_,_,_,_,_,_,bJV c n h.sm j⟩
 ·rw [e];dsimp only
  by_cases x:u.wr=0
  ·by_cases y:u.p.d=0
   ·have :=aZY c h m u f h2 (.inr y);rw [zbe.2 x,zbe.2 y];rw [zbe.2 x] at this;exact⟨_,_,_,_,_,_,this⟩
   ·rw [zbe.2 x,zbn.2 y];exact bP0 c h m u f h2 x y
  ·have :=aZY c h m u f h2 (.inl x);rw [zbn.2 x];rw [zbn.2 x] at this;exact⟨_,_,_,_,_,_,this⟩
theorem bII {c:Dc} (h:Ok c)(n:Int):Ok (bgG c n).1:=by
 unfold bgG;rcases cE c n with ⟨e,j⟩| ⟨m,u,e,rfl,f,h2⟩
 ·rw [e];exact h
 ·rw [e];dsimp only
  cases(u.wr==0) with
  |false=>exact h
  |true=>
   cases(u.p.d==0) with
   |true=>exact h
   |false=>exact bCF h f h2
def enG(c:Dc)(n e:Int):Dc×Int:=match fW c n with
 |none=>(c,2)
 |some (m,u)=>bif u.wr==0 then(c,4) else(aQS c m u e,0)
theorem aR8(c:Dc)(h:Ok c)(n e:Int):aM Tryz.prog 177 [] [.agg c.c,.int .i64 n,.int .i64 e] (.tup [.agg (enG c n e).1.c,.int .i64 (enG c n e).2]) []:=by
 unfold enG;rcases cE c n with ⟨x,j⟩| ⟨m,u,x,rfl,f,h2⟩
 ·rw [x];exact bJT c n e h.sm j
 ·rw [x];dsimp only
  by_cases y:u.wr=0
  ·rw [zbe.2 y];exact bJS c h m u f h2 y e
  ·rw [zbn.2 y];exact bOZ c h m u f h2 y e
theorem bIQ {c:Dc} (h:Ok c)(n e:Int):Ok (enG c n e).1:=by
 unfold enG;rcases cE c n with ⟨x,j⟩| ⟨m,u,x,rfl,f,h2⟩
 ·rw [x];exact h
 ·rw [x];dsimp only
  cases(u.wr==0) with
  |true=>exact h
  |false=>exact bCT h f h2 e
def aAC(c:Dc)(f off:Int)(s:ByteArray):Dc×Int:=bif qN c f off s.size then aCK c f.toNat off.toNat s else(c,2)
theorem bHS(c:Dc)(h:Ok c)(f off:Int)(s:ByteArray)(E:s.size<=1000000):aM Tryz.prog 57 [] [.agg c.c,.int .i64 f,.int .i64 off,.str s] (.tup [.agg (aAC c f off s).1.c,.int .i64 (aAC c f off s).2]) []:=by
 unfold aAC
 cases z:qN c f off s.size with
 |true=>
  obtain⟨f,off,n,rfl,rfl,e,D,C⟩:=lE z;have :n=s.size:=by omega
  subst this;exact bT9 c h f off s D C
 |false=>
  have j:=aYT c f;have m:=aBV off (s.size:Int);unfold qN at z;rw [zcf]
  cases B:decide (0<=f/\f< (c.fl.length:Int)) with
  |false=> rw [B] at j;refine aE (ob0:= []) [] Tryz.func57 rfl rfl rfl rfl ?_;exact Wz
  |true=> rw [B,zct] at z;rw [B] at j;rw [z] at m;refine aE (ob0:= []) [] Tryz.func57 rfl rfl rfl rfl ?_;exact Wz
theorem bBV {c:Dc} (h:Ok c) {f off:Nat} {s:ByteArray} (j:f<c.fl.length)(B:off+s.size<=128):Ok (aCK c f off s).1:=by
 unfold aCK
 cases(s.size==0) with
 |true=>exact h
 |false=>
  rw [zcf];obtain⟨D,m,F,G⟩:=vY h ((off+s.size:Nat):Int) j;obtain⟨z,E,H⟩:=aE0 D (s:=s) (off:=off) (show f< (dL c f ((off+s.size:Nat):Int)).1.fl.length by rw [m];exact j) B _ (zJ _);have e:f< (wrL (dL c f ((off+s.size:Nat):Int)).1 f off s (cnt off s.size)).fl.length:=by rw [E,m];exact j
  have C:=(z.file f e).size
  cases lQ c f off s.size true (cnt off s.size) with
  |none=>exact h
  |some L=>
   dsimp only
   cases((dL c f ((off+s.size:Nat):Int)).2==4) with
   |true=>exact h
   |false=>
    rw [zcf]
    cases(L.isEmpty&&(dL c f ((off+s.size:Nat):Int)).2==0) with
    |false=>exact h
    |true=>exact z.sz e (by omega)
theorem aUZ {c:Dc} (h:Ok c)(f off:Int)(s:ByteArray):Ok (aAC c f off s).1:=by
 unfold aAC
 cases m:qN c f off s.size with
 |false=>exact h
 |true=> obtain⟨f,off,n,rfl,rfl,e,j,z⟩:=lE m;exact bBV h j (by omega)
structure Sh(c d:Dc):Prop where
 fl:d.fl.length=c.fl.length
 fr:d.fr.length=c.fr.length
 zo:d.zo.length=c.zo.length
 gr:d.gr.length=c.gr.length
theorem Sh.refl(c:Dc):Sh c c:=⟨rfl,rfl,rfl,rfl⟩
theorem Sh.trans {a b c:Dc} (h:Sh a b)(k:Sh b c):Sh a c:=⟨k.fl.trans h.fl,k.fr.trans h.fr,k.zo.trans h.zo,k.gr.trans h.gr⟩
theorem aVS(l:List Zn)(f:Int):(eD l l f).1.length=l.length:=by
 unfold eD
 cases bB l with
 |false=>rfl
 |true=>
  cases decide (eJ (inG f) l<0) with
  |true=>rfl
  |false=>
   cases aD5 (l.getD (eJ (inG f) l).toNat gK).free f with
   |true=>rfl
   |false=>exact zA ..
theorem aX7(g:List Gr)(t:Nat):(iK g t).1.length=g.length:=by
 unfold iK
 cases decide ((g.getD t g0).chg<1) with
 |true=>rfl
 |false=>exact tN _ _ _
theorem aND(g:List Gr)(t:Nat):(eY g t).1.length=g.length:=by
 unfold eY
 cases decide ((g.getD t g0).lim- (g.getD t g0).chg<1) with
 |true=>rfl
 |false=>exact tN _ _ _
theorem Sh.put(c:Dc)(m:Nat)(u:Us):Sh c (c.put m u):=⟨zA ..,zA ..,rfl,rfl⟩
theorem Sh.pts(c:Dc)(l:List Pt):Sh c (c.pts l):=⟨rfl,rfl,rfl,rfl⟩
theorem Sh.acc(c:Dc)(m t:Nat):Sh c (c.acc m t):=⟨rfl,rfl,rfl,rfl⟩
theorem Sh.gone(c:Dc)(m:Nat)(u:Us)(v:Int):Sh c (c.gone m u v):=⟨zA ..,zA ..,aVS _ _,aX7 _ _⟩
theorem Sh.evi(c:Dc)(m:Nat)(u:Us):Sh c (c.evi m u):=
 have k:=Sh.gone c m u (0- (c.ck.getD u.ten 0+1))
 ⟨k.fl,k.fr,k.zo,k.gr⟩
theorem Sh.ins(c:Dc)(f p t:Nat) {z:List Zn} {g:List Gr} (m:Nat)(e:z.length=c.zo.length)(hg:g.length=c.gr.length):Sh c (c.ins f p t z g m):=⟨zA ..,zA ..,e,hg⟩
theorem Sh.fl1(c:Dc)(f:Nat)(x:Df):Sh c ⟨c.fl.set f x,c.fr,c.zo,c.gr,c.ls,c.ck,c.pt⟩:=⟨zA ..,rfl,rfl,rfl⟩
theorem Sh.wi1(c:Dc)(f off n p:Nat):Sh c (aFF c f off n p):=by
 unfold aFF
 cases isW c f off n p with
 |true=>
  cases jP c f p with
  |none=>exact(Sh.fl1 c _ _).trans (Sh.fl1 _ _ _)
  |some x=>exact(Sh.gone c _ _ _).trans (Sh.fl1 _ _ _)
 |false=>
  cases jP c f p with
  |none=>exact Sh.refl c
  |some x=>exact Sh.put c _ _
theorem Sh.wiL(c:Dc)(f off n:Nat):∀k,Sh c (aAB c f off n k)
 |0=>Sh.refl c
 |k+1=>(Sh.wiL c f off n k).trans (Sh.wi1 _ _ _ _ _)
theorem Sh.soi(c:Dc)(f:Nat)(e:Int):Sh c (dL c f e).1:=by
 unfold dL;split
 ·exact Sh.refl c
 ·split
  ·exact Sh.refl c
  ·cases(mW false _ _==0) with
   |true=>exact Sh.put c _ _
   |false=>exact Sh.refl c
theorem Sh.wr_(c:Dc)(f off:Nat)(s:ByteArray):∀k,Sh c (wrL c f off s k)
 |0=>Sh.refl c
 |k+1=>by
  have e:=Sh.wr_ c f off s k;rw [wrL];split
  ·exact(e.trans (Sh.put _ _ _)).trans (Sh.acc _ _ _)
  ·exact e
theorem Sh.writ(c:Dc)(f off:Int)(s:ByteArray):Sh c (aAC c f off s).1:=by
 unfold aAC
 cases qN c f off s.size with
 |false=>exact Sh.refl c
 |true=>
  rw [zct];unfold aCK
  cases(s.size==0) with
  |true=>exact Sh.refl c
  |false=>
   rw [zcf]
   cases lQ c f.toNat off.toNat s.size true (cnt off.toNat s.size) with
   |none=>exact Sh.refl c
   |some L=>
    dsimp only
    cases((dL c f.toNat ((off.toNat+s.size:Nat):Int)).2==4) with
    |true=>exact Sh.refl c
    |false=>
     rw [zcf]
     cases(L.isEmpty&&(dL c f.toNat ((off.toNat+s.size:Nat):Int)).2==0) with
     |false=>exact Sh.refl c
     |true=>exact((Sh.soi c _ _).trans (Sh.wr_ _ _ _ _ _)).trans (Sh.fl1 _ _ _)
theorem Sh.ev(c:Dc)(n:Int):Sh c (evG c n).1:=by
 unfold evG;split
 ·exact Sh.refl c
 ·rename_i m u e
  cases(iJ u&&decide (u.p.d=0)) with
  |false=>exact Sh.refl c
  |true=>exact Sh.evi c m u
theorem Sh.hol(c:Dc)(n k:Int):Sh c (aF9 c n k).1:=by
 unfold aF9;split
 ·exact Sh.refl c
 ·rename_i m u e
  cases decide ((-255<=k/\k<=255)/\0<=(u.holds:Int)+k/\(u.holds:Int)+k<=255) with
  |false=>exact Sh.refl c
  |true=>exact Sh.put c _ _
theorem Sh.rb(c:Dc)(n k:Int):Sh c (rbG c n k).1:=by
 unfold rbG;split
 ·exact Sh.refl c
 ·rename_i m u e
  cases decide ((1<=k/\k<=3)/\k.toNat &&& (u.p.v ||| u.rd)=0) with
  |false=>exact Sh.refl c
  |true=>exact Sh.put c _ _
theorem Sh.re(c:Dc)(n:Int)(d:ByteArray)(ok:Bool):Sh c (reG c n d ok).1:=by
 unfold reG;split
 ·exact Sh.refl c
 ·rename_i m u e;unfold aC8
  cases(u.rd==0) with
  |true=>exact Sh.refl c
  |false=>
   cases(ok&&decide (d.size≠16)) with
   |true=>exact Sh.refl c
   |false=>exact Sh.put c _ _
theorem Sh.bg(c:Dc)(n:Int):Sh c (bgG c n).1:=by
 unfold bgG;split
 ·exact Sh.refl c
 ·rename_i m u e
  cases(u.wr==0) with
  |false=>exact Sh.refl c
  |true=>
   cases(u.p.d==0) with
   |true=>exact Sh.refl c
   |false=>exact(Sh.put c _ _).trans (Sh.pts _ _)
theorem Sh.en(c:Dc)(n e:Int):Sh c (enG c n e).1:=by
 unfold enG;split
 ·exact Sh.refl c
 ·rename_i m u x
  cases(u.wr==0) with
  |true=>exact Sh.refl c
  |false=>
   rw [zcf];unfold aQS
   cases(e==0) with
   |true=>exact(Sh.put c _ _).trans (Sh.fl1 _ _ _)
   |false=>exact(Sh.put c _ _).trans (Sh.fl1 _ _ _)
theorem Sh.jI(c:Dc)(f p t e:Int)(j:Bool):Sh c (jI c f p t e j).1:=by
 unfold Go.Proofs.YtmhapcbjjpadnaaGreat.jI
 cases inI c f p t e with
 |false=>exact Sh.refl c
 |true=>
  rw [zct];unfold fI
  cases decide (0< ((c.fl.getD f.toNat aZ).E p.toNat).1) with
  |true=>exact Sh.refl c
  |false=>
   rw [zcf]
   cases((eY c.gr t.toNat).2==0) with
   |false=>exact Sh.refl c
   |true=>
    rw [zct]
    cases((bZ c.zo c.zo e j).2.2==0) with
    |false=>exact Sh.refl c
    |true=>exact Sh.ins c _ _ _ _ aX2 (aND _ _)
theorem Sh.ent(c:Dc)(z j f a:Int)(w:Bool):Sh c (aCY c z j f a w).1:=by
 unfold aCY
 cases inE c z j f a with
 |false=>exact Sh.refl c
 |true=>
  rw [zct];unfold aVM
  cases decide ((c.fl.getD f.toNat aZ).size<=a.toNat*16) with
  |true=>exact Sh.refl c
  |false=>
   rw [zcf];split
   ·exact Sh.refl c
   ·rename_i m u e
    cases(decide (u.p.v≠3)||(w&&decide (u.wr≠0))) with
    |true=>exact Sh.refl c
    |false=>exact((Sh.put c _ _).trans (Sh.acc _ _ _)).trans (Sh.pts _ _)
theorem Sh.pun(c:Dc)(f off n:Int):Sh c (aDM c f off n).1:=by
 unfold aDM
 cases qN c f off n with
 |false=>exact Sh.refl c
 |true=>
  rw [zct];unfold aWD
  cases(gY c f.toNat off.toNat (iA c f.toNat off.toNat n.toNat) (cnt off.toNat (iA c f.toNat off.toNat n.toNat))).2.2 with
  |false=>exact Sh.refl c
  |true=>exact Sh.wiL c _ _ _ _
theorem Sh.trn(c:Dc)(f z:Int):Sh c (uY c f z).1:=by
 unfold uY
 cases qN c f z 0 with
 |false=>exact Sh.refl c
 |true=>
  rw [zct];unfold aX5
  cases((dL c f.toNat (z.toNat:Int)).2==0) with
  |false=>exact Sh.refl c
  |true=>
   rw [zct]
   cases(gY c f.toNat z.toNat (iA c f.toNat z.toNat (128-z.toNat)) (cnt z.toNat (iA c f.toNat z.toNat (128-z.toNat)))).2.2 with
   |false=>exact Sh.refl c
   |true=>exact((Sh.soi c _ _).trans (Sh.wiL _ _ _ _ _)).trans (Sh.fl1 _ _ _)
theorem bR1(off n:Nat)(h:1<=n)(h2:off+n<=128):aM Tryz.prog 66 [] [.int .i64 (off:Int),.int .i64 (n:Int)] (.sl 0 0 (aA5 off n)) [.row 1 (pgR (off/16) (aA5 off n))]:=by
 have f:=aBV (off:Int) (n:Int);rw [aCS h2] at f;have e:aA5 off n=(off+n+15)/16-off/16:=rfl;have j:=rQ h2;unfold cnt at j;rw [zdf (show ¬n=0 by omega),zcf] at j;refine aE (ob0:= []) [] Tryz.func66 rfl rfl rfl rfl ?_;refine Wx ?_;refine Lp (λi:Nat=>i<=aA5 off n) (λi=> [(6,.int .i64 ((off/16+i:Nat):Int)),(5,.sl 0 0 i)]) (λi=> [(0,.row 1 (pgR (off/16) i))]) (λi=>aA5 off n-i) 0 (zE _) ?_ ?_
 ·exact Vr [none]
 intro i m;refine Wx ?_;refine gE (λb=>?_) (λb=>?_)
 ·refine Wx ?_;refine Le (i+1) (hv:=?_);simp only [aP3];exact Vr [_]
 obtain rfl:i=aA5 off n:=by omega
 exact Wo
def aC6(c:Dc)(f:Nat)(off n:Int):List Int:=(bif decide (1<=n)&&nU off n then(List.range' (off.toNat/16) (aA5 off.toNat n.toNat)).map (λx:Nat=>(x:Int)) else [])++(match pM (c.fl.getD f aZ) (off+n) with |some (p,_)=> [(p:Int)] |none=> [])
theorem bEH {c:Dc} (h:Ok c) {f:Nat} (D:f<c.fl.length)(off n:Int):(aC6 c f off n).length<=9/\∀x∈aC6 c f off n,∃p:Nat,x=(p:Int)/\p<8:=by
 unfold aC6
 have F:∀(o:Option (Nat×Nat)),pM (c.fl.getD f aZ) (off+n)=o->(match o with |some (p,_)=> [(p:Int)] |none=> []).length<=1/\∀x∈(match o with |some (p,_)=> [(p:Int)] |none=> []),∃p:Nat,x=(p:Int)/\p<8:=by
  intro o E
  cases o with
  |none=>exact⟨zE _,λx e=>by cases e⟩
  |some y=> obtain⟨p,s⟩:=y;obtain⟨z,-⟩:=aB0 E (h.file f D).size;exact⟨zJ _,λx e=>⟨p,List.mem_singleton.1 e,z⟩⟩
 obtain⟨z,B⟩:=F _ rfl
 cases j:(decide (1<=n)&&nU off n) with
 |false=> rw [zcf];exact⟨by rw [List.nil_append];omega,λx e=>B x (by simpa using e)⟩
 |true=>
  rw [zct];have j:=Bool.and_eq_true_iff.1 j;have H:=of_decide_eq_true j.1;obtain⟨a,b,rfl,rfl,C⟩:=aQG j.2;rw [zG,zG];have m:=rQ C;unfold cnt at m;rw [zdf (show ¬b=0 by omega),zcf] at m;refine⟨by rw [zC,List.length_map,List.length_range'];omega,λx e=>?_⟩;rcases List.mem_append.1 e with e |e
  ·obtain⟨y,G,rfl⟩:=List.mem_map.1 e;rw [List.mem_range'_1] at G;exact⟨y,rfl,by omega⟩
  ·exact B x e
def aM4(d:Dc)(f:Nat)(p:Int)(n:Int):Dc:=match fW d n with
 |none=>d
 |some (m,u)=>bif !(mW false 3 (u.p.v ||| u.rd)==0)&&u.rd==0 then(reG (rbG d n (mW false 3 (u.p.v ||| u.rd):Nat)).1 n (tU f p.toNat) true).1 else d
def aRJ(c:Dc)(f:Nat)(p:Int):Dc:=match jP c f p.toNat with
 |some (m,u)=>aM4 c f p ((m+1:Nat):Int)
 |none=>bif (jI c f p 0 ((c.zo.length:Int)-1) true).2.2==0 then aM4 (jI c f p 0 ((c.zo.length:Int)-1) true).1 f p (jI c f p 0 ((c.zo.length:Int)-1) true).2.1 else c
def aDN(c:Dc)(f:Nat)(ps:List Int):Nat->Dc
 |0=>c
 |k+1=>aRJ (aDN c f ps k) f (ps.getD k 0)
theorem aU0 {d:Dc} (h:Ok d)(f:Nat)(p n:Int):Ok (aM4 d f p n)/\Sh d (aM4 d f p n):=by
 unfold aM4;split
 ·exact⟨h,Sh.refl d⟩
 ·cases(!(mW false 3 (_ ||| _)==0)&&_==0) with
  |false=>exact⟨h,Sh.refl d⟩
  |true=>exact⟨bAY (aI4 h _ _) _ _ _,(Sh.rb d _ _).trans (Sh.re _ _ _ _)⟩
theorem bEF {c:Dc} (h:Ok c)(f:Nat)(p:Int):Ok (aRJ c f p)/\Sh c (aRJ c f p):=by
 unfold aRJ;split
 ·exact aU0 h _ _ _
 ·cases((jI c f p 0 ((c.zo.length:Int)-1) true).2.2==0) with
  |false=>exact⟨h,Sh.refl c⟩
  |true=> obtain⟨e,h2⟩:=aU0 (aBK h f p 0 ((c.zo.length:Int)-1) true) f p (jI c f p 0 ((c.zo.length:Int)-1) true).2.1;exact⟨e,(Sh.jI c _ _ _ _ _).trans h2⟩
theorem aC5 {c:Dc} (h:Ok c)(f:Nat)(ps:List Int):∀k,Ok (aDN c f ps k)/\Sh c (aDN c f ps k)
 |0=>⟨h,Sh.refl c⟩
 |k+1=>by obtain⟨e,h2⟩:=aC5 h f ps k;obtain⟨j,h4⟩:=bEF e f (ps.getD k 0);exact⟨j,h2.trans h4⟩
theorem aZ4 {c:Dc} (h:Ok c) {f p t j:Int} {z:Bool} (e:(jI c f p t j z).2.2=0):∃(m:Nat) (u:Us),(jI c f p t j z).2.1=((m+1:Nat):Int)/\m< (jI c f p t j z).1.fr.length/\(jI c f p t j z).1.fr.getD m none=some u:=by
 unfold jI at e⊢
 cases D:inI c f p t j with
 |false=>rw [D] at e;cases e
 |true=>
  rw [D,zct] at e;rw [zct];unfold fI at e⊢
  cases C:decide (0< ((c.fl.getD f.toNat aZ).E p.toNat).1) with
  |true=>rw [C] at e;cases e
  |false=>
   rw [C,zcf] at e;rw [zcf]
   cases h2:((eY c.gr t.toNat).2==0) with
   |false=>rw [h2,zcf] at e;rw [e] at h2;cases h2
   |true=>
    rw [h2,zct] at e;rw [zct]
    cases B:((bZ c.zo c.zo j z).2.2==0) with
    |false=>rw [B,zcf] at e;rw [e] at B;cases B
    |true=> rw [zct];obtain⟨m,F,G,H⟩:=take_at h (eq_of_beq B);dsimp only;rw [G,show(((m+1:Nat):Int)-1).toNat=m by omega];exact⟨m,aD7 c f.toNat p.toNat t.toNat,rfl,by show m< (c.fr.set m _).length;rw [zA];exact F,aH _ _ _ _ F⟩
end Go.Proofs.YtmhapcbjjpadnaaGreat
