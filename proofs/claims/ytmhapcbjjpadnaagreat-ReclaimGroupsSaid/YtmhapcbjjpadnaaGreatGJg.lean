/- Caches. -/
import Derived.Test.YtmhapcbjjpadnaaGreatGIg
import Derived.Test.YtmhapcbjjpadnaaGreatGHg
import Derived.Test.YtmhapcbjjpadnaaGreatXRKg
import Derived.Test.YtmhapcbjjpadnaaGreatG8g
import Derived.Test.YtmhapcbjjpadnaaGreatGGg
import Derived.Test.YtmhapcbjjpadnaaGreatK8g
import Derived.Test.YtmhapcbjjpadnaaGreatXRNg
set_option linter.all false
set_option maxHeartbeats 8000000
set_option maxRecDepth 40000
open Int renaming toNat_natCast→zG
open List renaming length_set→zA,length_append→zC,take_of_length_le→zH,getElem?_eq_none→zI,map_set→zK
open Nat renaming pow_lt_pow_right→zD,zero_le→zE,or_lt_two_pow→zF,le_refl→zJ
namespace Go.Proofs.YtmhapcbjjpadnaaGreat
open Go Go.Sk Go.RowKit
theorem bJ2(c:Dc)(n:Nat)(u:Us)(hc:SmD c)(h:pU (c.setU n u) n u):aM Tryz.prog 155 [] [.agg c.c,.int .i64 ((n+1:Nat):Int),.agg u.c] (.agg (c.put n u).o) (c.put n u).ob:=by
 have z:n<c.fr.length:=by have :=h.at_;simpa [Dc.setU] using this
 have B:SmD (c.setU n u):=⟨hc.fl,by show(c.fr.set n (some u)).length<=64;rw [zA];exact hc.fr,hc.gr,hc.ls,hc.ck⟩;have e:=bGP (c.setU n u) n u B h;have C:=aO4 c hc;unfold Dc.put;obtain⟨F,f,Q,gr,K,D,N⟩:=c;have m:=hc.fr;dsimp only at z m
 have j:(aQ f).set n (aS 9 ((aQ f).getD n []) 0 u.c)=aQ (f.set n (some u)):=by
  rw [cD f n z];have :aS 9 (frC (f.getD n none)) 0 u.c=u.c:=by cases f.getD n none <;> rfl
  rw [this];unfold aQ;rw [zK];rfl
 generalize T:(Dc.setU ⟨F,f,Q,gr,K,D,N⟩ n u).mark u=q at e⊢;obtain⟨G,H,R,J,M,E,O⟩:=q;unfold Dc.o Dc.ob Dc.setU at e;unfold Dc.o Dc.ob;dsimp only at e⊢;rw [zA,<-j] at e;refine cF Tryz.func155 ?_;refine Wk ?_;refine .inr ⟨λ_=>⟨[],_,_,_,C,trivial,rfl,rfl,rfl,?_⟩,(by intro h;cases h)⟩
 refine Wk ?_;rw [aN (n:=((n+1:Nat):Int)-1) (by omega) (by omega),show((n+1:Nat):Int)-1=(n:Int) by omega,show decide (0<=(n:Int)/\(n:Int)< (f.length:Int))=true from zdt ⟨by omega,by omega⟩];refine Wk ?_;rw [show 0+(n:Int).toNat=n by omega,show decide (n< (aQ f).length)=true from zdt (by rw [bU];exact z)];refine Wk ?_;refine .inr ⟨λ_=>⟨[3,4,5,6,7],_,_,_,e,⟨rfl,rfl,rfl,rfl,rfl,trivial⟩,rfl,rfl,rfl,?_⟩,(by intro h;cases h)⟩
 refine Wk ?_;exact⟨[some 3,some 4,some 5,some 6,some 7],Cl,rfl,Cl,rfl,Cl⟩
theorem Ok.p155q {c:Dc} (h:Ok c) {n:Nat} {u u':Us} (e:n<c.fr.length)(B:c.fr.getD n none=some u)(j:lC u'=lC u)(m:fJ u'.p)(z:u'.rd<4)(C:u'.wr<4):aM Tryz.prog 155 [] [.agg c.c,.int .i64 ((n+1:Nat):Int),.agg u'.c] (.agg (c.put n u').o) (c.put n u').ob:=by
 have k:=h.use n u e B;have f:=h.file _ k.file;simp only [lC,Prod.mk.injEq] at j;obtain⟨k1,k2,k3⟩:=j;refine bJ2 c n u' h.sm ⟨by show n< (c.fr.set n (some u')).length;rw [zA];exact e,aE _ _ _ _ e,?_,?_,?_,?_,?_,m,?_,z,C⟩
 ·rw [k1];exact k.file
 ·rw [k2];have :=k.page;omega
 ·show bG (c.fl.getD u'.file aX).E;rw [k1];exact f.E
 ·show Sup (c.fl.getD u'.file aX).E;rw [k1];exact f.sup
 ·show 0< ((c.fl.getD u'.file aX).E u'.page).1;rw [k1,k2,k.val];omega
 ·rw [k3];show u.ten<c.ls.length;rw [h.nl];exact k.ten
def mG(s:Nat):Nat×Nat:=bif s==1 then(0,1) else bif s==2 then(1,1) else(0,2)
theorem bGS(s:Nat):aM Tryz.prog 277 [] [.int .i64 (s:Int)] (.tup [.int .i64 ((mG s).1:Int),.int .i64 ((mG s).2:Int)]) []:=by
 unfold mG
 by_cases e1:s=1
 ·subst e1;refine aG (ob0:= []) [] Tryz.func277 rfl rfl rfl rfl ?_;exact Wz
 ·rw [zbn.2 e1,zcf]
  by_cases e:s=2
  ·subst e;refine aG (ob0:= []) [] Tryz.func277 rfl rfl rfl rfl ?_;exact Wz
  ·rw [zbn.2 e,zcf];refine aG (ob0:= []) [] Tryz.func277 rfl rfl rfl rfl ?_;exact Wz
theorem bJV(s:Int):aM Tryz.prog 356 [] [.int .i64 s] (.bool (decide (0<=s/\s<7))) []:=by
 have k:=bGG
 by_cases e1:0<=s
 ·by_cases e:s<7
  ·rw [zdt (show 0<=s/\s<7 from⟨e1,e⟩)];refine aG (ob0:= []) [] Tryz.func356 rfl rfl rfl rfl ?_;exact Wz
  ·rw [zdf (show ¬(0<=s/\s<7) by omega)];refine aG (ob0:= []) [] Tryz.func356 rfl rfl rfl rfl ?_;exact Wz
 ·rw [zdf (show ¬(0<=s/\s<7) by omega)];refine aG (ob0:= []) [] Tryz.func356 rfl rfl rfl rfl ?_;exact Wz
def psF(s:Int)(p:Nat):Int:=bif decide (0<=s/\s<7) then s*18+2+p*2 else -1
theorem bJZ(s:Int)(p:Nat)(f:p<8): -1<=psF s p/\psF s p<=1000:=by
 unfold psF
 by_cases e:0<=s/\s<7
 ·rw [zdt e,zct];omega
 ·rw [zdf e,zcf];omega
theorem bJT(s:Int)(p:Nat)(f:p<8):aM Tryz.prog 332 [] [.int .i64 s,.int .i64 (p:Int)] (.int .i64 (psF s p)) []:=by
 have k:=bJV s;unfold psF
 by_cases e:0<=s/\s<7
 ·rw [zdt e] at k;rw [zdt e,zct];obtain⟨s,rfl⟩:∃t:Nat,s=(t:Int):=⟨s.toNat,by omega⟩;have :(s:Int)*18+2+p*2=((s*18+2+p*2:Nat):Int):=by omega
  rw [this];exact bP4 s p (by omega) f
 ·rw [zdf e] at k;rw [zdf e,zcf];refine aG (ob0:= []) [] Tryz.func332 rfl rfl rfl rfl ?_;exact Wz
def aQT(dev ten sec cnt kind:Int)(d:ByteArray):V:=.agg [.int .i64 0,.int .i64 ten,.int .i64 dev,.int .i64 kind,.int .i64 sec,.int .i64 cnt,.str d,.bool false,.bool false,.int .i64 0]
theorem bOH(c:Dc)(h:Ok c)(m:Nat)(u:Us)(h1:m<c.fr.length)(h2:c.fr.getD m none=some u)(s:Nat):
 aM Tryz.prog 276 [] [.agg c.c,.int .i64 ((m+1:Nat):Int),.int .i64 (s:Int)] (aQT (c.fl.getD u.file aX).dev (u.ten:Int) (psF (c.fl.getD u.file aX).slot u.page+((mG s).1:Int)) ((mG s).2:Int) 0 ⟨#[]⟩) []:=by
 have B:=h.use m u h1 h2;have F:=qW h1 h2;have G:=h.nr;have z:=B.file;have j:=vS z;obtain⟨k0,k1,k2,k3,f,-⟩:=Df.cells (h.file _ z).E;rw [f] at j;have e:=B.page;have C:=bGS s;have D:=bJT (c.fl.getD u.file aX).slot u.page e;have H:=bJZ (c.fl.getD u.file aX).slot u.page e;have J:(mG s).1<=1:=by unfold mG;cases(s==1)<;> cases(s==2)<;> decide
 generalize psF (c.fl.getD u.file aX).slot u.page=K at *;generalize mG s=M at *;unfold aQT;refine aG (ob0:= []) [] Tryz.func276 rfl rfl rfl rfl ?_;exact Wz
def aWU(u:Us)(s:Nat):Us:=⟨u.file,u.page,aPP u.p s,u.ten,u.holds,u.rd,s⟩
def nE(c:Dc)(u:Us):Nat:=bif sM (c.fl.getD u.file aX).blocks u.page then 3 else u.p.d
def bBZ(c:Dc)(m:Nat)(u:Us):Dc:=(c.put m (aWU u (nE c u))).pts (c.pt.map (aBG ((m+1:Nat):Int)))
def bG0:V:=aQT 0 0 0 0 0 ⟨#[]⟩
theorem aKC {c:Dc} {u:Us} (h:fJ u.p):nE c u<4:=by
 unfold nE;have :=h.d
 cases sM (c.fl.getD u.file aX).blocks u.page with
 |true=>rw [zct];omega
 |false=>rw [zcf];exact this
theorem bDO {l:List Pt} (h:kP l=true)(f:Int):kP (l.map (aBG f))=true:=by
 obtain⟨e,j⟩:=(kQ l).1 h;have e1:∀x,dQ (aBG f x)=dQ x:=λx=>by unfold aBG;cases(x.frame==f)<;> rfl
 have m:∀x,eG (aBG f x)=eG x:=λx=>by unfold aBG;cases(x.frame==f)<;> rfl
 refine(kQ _).2 ⟨λx z=>?_,List.pairwise_map.2 (j.imp λh=>by rw [e1,e1];exact h)⟩;obtain⟨y,B,rfl⟩:=List.mem_map.1 z;rw [m];exact e y B
theorem bC0 {c:Dc} (h:Ok c) {m:Nat} {u:Us} (h1:m<c.fr.length)(h2:c.fr.getD m none=some u):Ok (bBZ c m u):=by have e:=h.use m u h1 h2;exact(h.put h1 h2 (u':=aWU u (nE c u)) rfl (aIM e.pg (aKC e.pg)) e.holds e.rd (aKC e.pg)).pts (bDO h.pt _)
theorem bJ6(c:Dc)(n:Int)(hc:SmD c)(f:fZ c n=false):aM Tryz.prog 178 [] [.agg c.c,.int .i64 n] (.tup [.agg c.c,bG0,.int .i64 2]) []:=by have e:=aCX c n hc;rw [f] at e;refine aG (ob0:= []) [] Tryz.func178 rfl rfl rfl rfl ?_;exact Wz
theorem aZ4(c:Dc)(h:Ok c)(m:Nat)(u:Us)(h1:m<c.fr.length)(h2:c.fr.getD m none=some u)(f:u.wr≠0\/u.p.d=0):
 aM Tryz.prog 178 [] [.agg c.c,.int .i64 ((m+1:Nat):Int)] (.tup [.agg c.c,bG0,.int .i64 (bif u.wr==0 then 4 else 7)]) []:=by
 have B:=h.use70 h1 h2;have j:=qW h1 h2;have z:=h.nr
 by_cases b:u.wr=0
 ·rw [zbe.2 b,zct];have C:u.p.d=0:=f.resolve_left (λe=>e b);refine aG (ob0:= []) [] Tryz.func178 rfl rfl rfl rfl ?_;exact Wz
 ·rw [zbn.2 b,zcf];refine aG (ob0:= []) [] Tryz.func178 rfl rfl rfl rfl ?_;exact Wz
theorem bNQ(c:Dc)(h:Ok c)(m:Nat)(u:Us)(h1:m<c.fr.length)(h2:c.fr.getD m none=some u)(hw:u.wr=0)(hd:u.p.d≠0):
 ∃x1 x2 x3 x4 x5 x6,aM Tryz.prog 178 [] [.agg c.c,.int .i64 ((m+1:Nat):Int)] (.tup [.agg (bBZ c m u).c,aQT x1 x2 x3 x4 x5 x6,.int .i64 0]) []:=by
 have ac:=h.use70 h1 h2;have j:=h.use m u h1 h2;have Z:=qW h1 h2;have aa:=h.nr;have O:=j.file;have K:=vS O;have R:=h.file _ O;obtain⟨k0,k1,k2,k3,J,-⟩:=Df.cells R.E;rw [J] at K;have M:=j.page;have ab:=j.pg.size;have Y:=j.pg.d;have f:=aKC (c:=c) j.pg;have B:=bOH c h m u h1 h2 (nE c u);have C:=bGS (nE c u);have D:=bOI u.p j.pg (nE c u) f;have z:=h.p155 (u':=aWU u (nE c u)) h1 h2 rfl (aIM j.pg f) j.rd f;have Q:=bOJ c.pt ((m+1:Nat):Int) h.pt h.ptl
 have G:(mG (nE c u)).1+(mG (nE c u)).2<=2:=by unfold mG;cases(nE c u==1)<;> cases(nE c u==2)<;> decide
 have W:=R.blocks;refine⟨(c.fl.getD u.file aX).dev,(u.ten:Int),psF (c.fl.getD u.file aX).slot u.page+((mG (nE c u)).1:Int),((mG (nE c u)).2:Int),2,u.p.b.extract ((mG (nE c u)).1*8) (((mG (nE c u)).1+(mG (nE c u)).2)*8),?_⟩;generalize psF (c.fl.getD u.file aX).slot u.page=ps at *;generalize mG (nE c u)=sp at *;have F:sM (c.fl.getD u.file aX).blocks u.page=((((c.fl.getD u.file aX).blocks &&& 2^u.page:Nat):Int)==0):=rfl;have T:2^u.page<2^8:=zD (by omega) M;unfold bBZ aWU at *
 unfold aQT at *
 cases H:sM (c.fl.getD u.file aX).blocks u.page with
 |true=>
  have N:nE c u=3:=by unfold nE;rw [H];rfl
  simp only [N] at B C D z f G⊢;rw [H] at F;generalize c.put m _=e at *;refine aG (ob0:= []) [] Tryz.func178 rfl rfl rfl rfl ?_;exact Wz
 |false=>
  have N:nE c u=u.p.d:=by unfold nE;rw [H];rfl
  simp only [N] at B C D z f G⊢;rw [H] at F;generalize c.put m _=e at *;refine aG (ob0:= []) [] Tryz.func178 rfl rfl rfl rfl ?_;exact Wz
def fer(f:Df)(a b:Int):Df:=⟨f.dev,f.slot,f.E,f.size,f.blocks,a,b⟩
def onB(b p:Nat):Nat:=b ||| 2^p
def Dc.blo(c:Dc)(f p:Nat):Dc:=⟨c.fl.set f (fbl (c.fl.getD f aX) (onB (c.fl.getD f aX).blocks p)),c.fr,c.zo,c.gr,c.ls,c.ck,c.pt⟩
def Dc.ers(c:Dc)(f:Nat)(e:Int):Dc:=⟨c.fl.set f (fer (c.fl.getD f aX) (aD2 (c.fl.getD f aX).ec (c.fl.getD f aX).ee e).1 (aD2 (c.fl.getD f aX).ec (c.fl.getD f aX).ee e).2),c.fr,c.zo,c.gr,c.ls,c.ck,c.pt⟩
theorem Ok.fl1 {c:Dc} (h:Ok c) {f:Nat} (z:f<c.fl.length) {x:Df} (j:OkF x)(B:x.E=(c.fl.getD f aX).E):Ok ⟨c.fl.set f x,c.fr,c.zo,c.gr,c.ls,c.ck,c.pt⟩:=by
 refine h.same (zA ..) (λg q=>?_) (λg hg=>?_) rfl (λ_=>rfl) (λm v C D=>?_) rfl rfl rfl h.ls (λ_ _ j=>j) rfl h.pt
 ·show(((c.fl.set f x).getD g aX).E q).1=_
  by_cases e:g=f
  ·subst e;rw [aE _ _ _ _ z,B]
  ·rw [getD_set_ne _ _ _ e]
 ·show OkF ((c.fl.set f x).getD g aX)
  by_cases e:g=f
  ·subst e;rw [aE _ _ _ _ z];exact j
  ·rw [getD_set_ne _ _ _ e];exact h.file g hg
 ·have :=h.use m v C D;exact⟨this.pg,this.holds,this.rd,this.wr⟩
theorem Ok.blo {c:Dc} (h:Ok c) {f p:Nat} (e:f<c.fl.length)(j:p<8):Ok (c.blo f p):=by have k:=h.file f e;exact h.fl1 e ⟨k.E,k.sup,k.lo,k.size,zF (n:=8) k.blocks (zD (by omega) j),k.ec,k.ee⟩ rfl
theorem bE6 {a b e:Int} (h:0<=a/\a<=1000000)(h2:a=0↔b=0)(f:e≠0):(0<=(aD2 a b e).1/\(aD2 a b e).1<=1000000)/\((aD2 a b e).1=0↔(aD2 a b e).2=0):=by
 unfold aD2
 by_cases x:a=1000000
 ·rw [zbe.2 x,zct];exact⟨h,h2⟩
 ·rw [zbn.2 x,zcf];dsimp only;exact⟨by omega,by omega⟩
theorem Ok.ers {c:Dc} (h:Ok c) {f:Nat} (j:f<c.fl.length) {e:Int} (m:e≠0):Ok (c.ers f e):=by have k:=h.file f j;obtain⟨z,B⟩:=bE6 k.ec k.ee m;exact h.fl1 j ⟨k.E,k.sup,k.lo,k.size,k.blocks,z,B⟩ rfl
theorem bPU {L:List Df} {f:Nat} {a b:Int} (h:f<L.length)(m:bG (L.getD f aX).E):bF (L.set f (fer (L.getD f aX) a b))=(bF L).set f (aS 15 (L.getD f aX).c 8 [.int .i64 a,.int .i64 b]):=by
 rw [bF,bF,zK];obtain⟨k0,k1,k2,k3,e,j⟩:=Df.cells m
 congr 1
 unfold Df.c fer;dsimp only;rw [j];rfl
def aC8(u:Us)(e:Int):Us:=⟨u.file,u.page,bif e==0 then u.p else aE4 u.p u.wr,u.ten,u.holds,u.rd,0⟩
def aPY(c:Dc)(m:Nat)(u:Us)(e:Int):Dc:=bif e==0 then(c.put m (aC8 u e)).blo u.file u.page else(c.put m (aC8 u e)).ers u.file e
theorem aKJ {u:Us} (h:fJ u.p)(f:u.wr<4)(e:Int):fJ (aC8 u e).p:=by
 unfold aC8
 cases(e==0) with
 |true=>exact h
 |false=>exact aBQ h f
theorem bCE {c:Dc} (h:Ok c) {m:Nat} {u:Us} (h1:m<c.fr.length)(h2:c.fr.getD m none=some u)(e:Int):Ok (aPY c m u e):=by
 have f:=h.use m u h1 h2;have z:=h.put h1 h2 (u':=aC8 u e) rfl (aKJ f.pg f.wr e) f.holds f.rd (by show 0<4;omega);have j:u.file< (c.put m (aC8 u e)).fl.length:=by rw [vC];exact f.file
 unfold aPY
 by_cases x:e=0
 ·rw [zbe.2 x];exact z.blo j f.page
 ·rw [zbn.2 x];exact z.ers j x
theorem bJ4(c:Dc)(n e:Int)(hc:SmD c)(j:fZ c n=false):aM Tryz.prog 177 [] [.agg c.c,.int .i64 n,.int .i64 e] (.tup [.agg c.c,.int .i64 2]) []:=by have f:=aCX c n hc;rw [j] at f;refine aG (ob0:= []) [] Tryz.func177 rfl rfl rfl rfl ?_;exact Wz
theorem bJ3(c:Dc)(h:Ok c)(m:Nat)(u:Us)(h1:m<c.fr.length)(h2:c.fr.getD m none=some u)(B:u.wr=0)(e:Int):
 aM Tryz.prog 177 [] [.agg c.c,.int .i64 ((m+1:Nat):Int),.int .i64 e] (.tup [.agg c.c,.int .i64 4]) []:=by
 have z:=h.use70 h1 h2;have f:=qW h1 h2;have j:=h.nr;refine aG (ob0:= []) [] Tryz.func177 rfl rfl rfl rfl ?_;exact Wz
theorem bNP(c:Dc)(h:Ok c)(m:Nat)(u:Us)(h1:m<c.fr.length)(h2:c.fr.getD m none=some u)(hw:u.wr≠0)(e:Int):
 aM Tryz.prog 177 [] [.agg c.c,.int .i64 ((m+1:Nat):Int),.int .i64 e] (.tup [.agg (aPY c m u e).c,.int .i64 0]) []:=by
 have Y:=h.use70 h1 h2;have j:=h.use m u h1 h2;have R:=qW h1 h2;have T:=h.nr;have Q:=j.file;have N:=j.page;have O:=aZ3 u.p j.pg u.wr j.wr;have z:=h.p155q (u':=aC8 u e) h1 h2 rfl (aKJ j.pg j.wr e) j.rd (by show 0<4;omega);have o:=h.put h1 h2 (u':=aC8 u e) rfl (aKJ j.pg j.wr e) j.holds j.rd (by show 0<4;omega);have B:u.file< (c.put m (aC8 u e)).fl.length:=by rw [vC];exact Q
 have H:2^u.page<2^8:=zD (by omega) N;unfold aPY;generalize hd:c.put m (aC8 u e)=d at *;have D:=o.file _ B;have M:=vS B;have J:=D.blocks;have F:=aZY (b:=onB (d.fl.getD u.file aX).blocks u.page) B D.E;have G:=bPU (a:=(aD2 (d.fl.getD u.file aX).ec (d.fl.getD u.file aX).ee e).1) (b:=(aD2 (d.fl.getD u.file aX).ec (d.fl.getD u.file aX).ee e).2) B D.E;have W:=zF (n:=8) J H;have C:=λhe=>bOG (d.fl.getD u.file aX).ec (d.fl.getD u.file aX).ee e D.ec.1 D.ec.2 D.ee he
 obtain⟨k0,k1,k2,k3,K,-⟩:=Df.cells D.E;rw [K] at M F G;have f:=o.sm;have Z:=f.fl;have g2:=f.fr;have g3:=f.gr;have g4:=f.ls;have g5:=f.ck;unfold aC8 at z
 by_cases x:e=0
 ·rw [zbe.2 x,zct];rw [zbe.2 x,zct] at z;subst x;unfold Dc.blo;simp only [Dc.c,F];unfold onB;refine aG (ob0:= []) [] Tryz.func177 rfl rfl rfl rfl ?_;exact Wz
 ·rw [zbn.2 x,zcf];rw [zbn.2 x,zcf] at z;have C:=C x;unfold Dc.ers;simp only [Dc.c,G];generalize aD2 (d.fl.getD u.file aX).ec (d.fl.getD u.file aX).ee e=r at *;refine aG (ob0:= []) [] Tryz.func177 rfl rfl rfl rfl ?_;exact Wz
theorem draw(L:List Int) {J:Nat} (m:(L.length:Int)<2^62)(j:J<=L.length)(n:Int)(f:0<n)(h1:n<1000000000):
 ∃v e:Nat,(v:Int)<n/\e<=L.length/\aM Tryz.prog 15 [oH L J] [.ptr 0 0 0,.int .i64 n] (.int .i64 (v:Int)) [oH L e]:=by
 have a:=aYU L J n f (by omega);refine⟨(nxV L J n).toNat,nxI L J,by omega,aYT L J j,?_⟩;rw [show(((nxV L J n).toNat:Nat):Int)=nxV L J n by omega];exact bG9 L J n m j f (by omega)
def fS(l:List (Option Us)):Nat->List Int
 |0=> []
 |k+1=>bif (l.getD k none).isSome then fS l k++ [((k+1:Nat):Int)] else fS l k
theorem aDB {l:List (Option Us)} :∀ {k:Nat} {x:Int},x∈fS l k->∃(m:Nat) (u:Us),x=((m+1:Nat):Int)/\m<k/\l.getD m none=some u
 |0,x,h=>by simp [fS] at h
 |k+1,x,h=>by
  rw [fS] at h
  cases e:l.getD k none with
  |none=> rw [e] at h;obtain⟨m,u,h1,h2,f⟩:=aDB (k:=k) h;exact⟨m,u,h1,by omega,f⟩
  |some u=>
   rw [e] at h;rcases List.mem_append.1 h with h |h
   ·obtain⟨m,u,h1,h2,f⟩:=aDB (k:=k) h;exact⟨m,u,h1,by omega,f⟩
   ·exact⟨k,u,List.mem_singleton.1 h,by omega,e⟩
theorem vH(l:List (Option Us)):∀k,(fS l k).length<=k
 |0=>zJ 0
 |k+1=>by
  rw [fS];have :=vH l k
  cases(l.getD k none).isSome with
  |true=>rw [zct,zC,List.length_singleton];omega
  |false=>rw [zcf];omega
theorem aD4(a:List Int)(x:Int):aB (a++ [x])=aB a++ [[.int .i64 x]]:=by simp [aB]
theorem aJG(c:Dc)(h:Ok c)(L:List Int) {J:Nat} (H:(L.length:Int)<2^62)(F:J<=L.length):
 ∃(r:Int) (C:Nat),C<=L.length/\(r=0\/∃(m:Nat) (u:Us),r=((m+1:Nat):Int)/\m<c.fr.length/\c.fr.getD m none=some u)/\
  aM Tryz.prog 281 [oH L J] [.ptr 0 0 0,.agg c.c] (.int .i64 r) [oH L C]:=by
 have N:=h.nr;have G:=vH c.fr c.fr.length
 by_cases e:(fS c.fr c.fr.length).length=0
 ·refine⟨0,J,F,.inl rfl,?_⟩;refine aG (ob0:= [oH L J]) [] Tryz.func281 rfl rfl rfl rfl ?_;refine Wx ?_;refine Lp (λi:Nat=>i<=c.fr.length) (λi=> [(6,.int .i64 ((i+1:Nat):Int)),(5,.sl 2 0 (fS c.fr i).length)]) (λi=> [(2,.row 1 (aB (fS c.fr i)))]) (λi=>c.fr.length-i) 0 (zE _) ?_ ?_
  ·exact Vr [_,_,none]
  intro i M;have E:=vH c.fr i;have f:fS c.fr (i+1)=bif (c.fr.getD i none).isSome then fS c.fr i++ [((i+1:Nat):Int)] else fS c.fr i:=rfl
  refine Wx ?_;refine iF (λb=>?_) (λb=>?_)
  ·have b:i<c.fr.length:=by omega
   have hg:=cD c.fr i b;generalize fS c.fr i=U at *
   cases B:c.fr.getD i none with
   |none=> rw [B] at hg f;have hg:(aQ c.fr).getD i []=fre.c:=hg;have f:fS c.fr (i+1)=U:=f;refine Wx ?_;refine Le (i+1) (hv:=?_);simp only [f];exact Vr [_,_,_]
   |some u=> rw [B] at hg f;have hg:(aQ c.fr).getD i []=u.c:=hg;have f:fS c.fr (i+1)=U++ [((i+1:Nat):Int)]:=f;refine Wx ?_;refine Le (i+1) (hv:=?_);simp only [f,aD4];exact Vr [_,_,_]
  obtain rfl:i=c.fr.length:=by omega
  exact Wo
 ·obtain⟨v,C,j,D,O⟩:=draw L H F ((fS c.fr c.fr.length).length:Int) (by omega) (by omega);have j:v< (fS c.fr c.fr.length).length:=by omega
  have K:=aOP j;have z:(fS c.fr c.fr.length).getD v 0∈fS c.fr c.fr.length:=by rw [List.getD_eq_getElem?_getD,List.getElem?_eq_getElem j];exact List.getElem_mem j
  obtain⟨m,u,Q,R,T⟩:=aDB z;refine⟨(fS c.fr c.fr.length).getD v 0,C,D,.inr ⟨m,u,Q,R,T⟩,?_⟩;refine aG (ob0:= [oH L J]) [] Tryz.func281 rfl rfl rfl rfl ?_;refine Wx ?_;refine Lp (λi:Nat=>i<=c.fr.length) (λi=> [(6,.int .i64 ((i+1:Nat):Int)),(5,.sl 2 0 (fS c.fr i).length)]) (λi=> [(2,.row 1 (aB (fS c.fr i)))]) (λi=>c.fr.length-i) 0 (zE _) ?_ ?_
  ·exact Vr [_,_,none]
  intro i M;have E:=vH c.fr i;have f:fS c.fr (i+1)=bif (c.fr.getD i none).isSome then fS c.fr i++ [((i+1:Nat):Int)] else fS c.fr i:=rfl
  refine Wx ?_;refine iF (λb=>?_) (λb=>?_)
  ·have b:i<c.fr.length:=by omega
   have hg:=cD c.fr i b;generalize fS c.fr i=U at *
   cases B:c.fr.getD i none with
   |none=> rw [B] at hg f;have hg:(aQ c.fr).getD i []=fre.c:=hg;have f:fS c.fr (i+1)=U:=f;refine Wx ?_;refine Le (i+1) (hv:=?_);simp only [f];exact Vr [_,_,_]
   |some u=> rw [B] at hg f;have hg:(aQ c.fr).getD i []=u.c:=hg;have f:fS c.fr (i+1)=U++ [((i+1:Nat):Int)]:=f;refine Wx ?_;refine Le (i+1) (hv:=?_);simp only [f,aD4];exact Vr [_,_,_]
  obtain rfl:i=c.fr.length:=by omega
  exact Wo
def tJ(f p:Nat)(i:Nat):List UInt8:=(List.range 16).map λj=>bif decide (j<i) then UInt8.ofNat (65+(f*7+p*3+j)%26) else 0
theorem pY(f p i:Nat):(tJ f p i).length=16:=by simp [tJ]
theorem aUO(f p i:Nat)(hi:i<16):tJ f p (i+1)=(tJ f p i).set i (UInt8.ofNat (65+(f*7+p*3+i)%26)):=by
 apply List.ext_getElem?;intro j
 by_cases m:j<16
 ·rw [List.getElem?_set]
  by_cases e:i=j
  ·subst e;rw [if_pos rfl,if_pos (by rw [pY];exact m)];simp [tJ,m]
  ·rw [if_neg e];simp only [tJ,List.getElem?_map,List.getElem?_range m,Option.map_some];rw [show decide (j<i+1)=decide (j<i) by rw [decide_eq_decide];omega]
 ·rw [zI (by rw [pY];omega),zI (by rw [zA,pY];omega)]
def tK(f p:Nat):ByteArray:=⟨(tJ f p 16).toArray⟩
theorem aVQ(l:List UInt8)(i:Nat)(b:UInt8):(jK l).set i [.int .u8 (b.toNat:Int)]=jK (l.set i b):=by unfold jK;rw [zK]
theorem aUN(f p:Nat):iD (List.take 16 (List.drop 0 (jK (tJ f p 16))))=some (tJ f p 16):=by rw [List.drop_zero,zH (by rw [mZ,pY];omega)];exact kO _
theorem bQF {n:Nat} (h:n<256):IntKind.u8.wrap (n:Int)=((UInt8.ofNat n).toNat:Int):=by rw [IntKind.wrap_u8,UInt8.toNat_ofNat'];omega
theorem bGA(f p:Nat)(B:f<=100)(E:p<=100):aM Tryz.prog 160 [] [.int .i64 (f:Int),.int .i64 (p:Int)] (.str (tK f p)) []:=by
 have z:=aUN f p;unfold tK;refine aG (ob0:= []) [] Tryz.func160 rfl rfl rfl rfl ?_;refine Wx ?_;refine Lp (λi:Nat=>i<=16) (λi=> [(10,.int .i64 (i:Int))]) (λi=> [(0,.row 1 (jK (tJ f p i)))]) (λi=>16-i) 0 (zE _) ?_ ?_
 ·exact Vr [_]
 intro i C;have D:=pY f p i;have e:=mZ (tJ f p i);refine Wx ?_;refine iF (λb=>?_) (λb=>?_)
 ·have j:=aUO f p i (by omega);have m:=bQF (n:=65+(f*7+p*3+i)%26) (by omega);refine Wx ?_;refine Le (i+1) (hv:=?_);simp only [j,<-aVQ,<-m];exact Vr [_]
 obtain rfl:i=16:=by omega
 exact Wz
def abc(v:Int):UInt8:=UInt8.ofNat (97+v.toNat)
def pH(L:List Int)(J:Nat):Nat->Nat×List UInt8
 |0=>(J,[])
 |k+1=>(nxI L (pH L J k).1,(pH L J k).2++ [abc (nxV L (pH L J k).1 8)])
theorem aAP(L:List Int) {J:Nat} (e:J<=L.length):∀k,(pH L J k).1<=L.length/\(pH L J k).2.length=k
 |0=>⟨e,rfl⟩
 |k+1=>by obtain⟨h1,h2⟩:=aAP L e k;exact⟨aYT L _ h1,by rw [pH,zC,h2];rfl⟩
def aMH(L:List Int)(J n i:Nat):List (List V):=jK (pH L J i).2++List.replicate (n-i) [.int .u8 0]
theorem aMI(L:List Int) {J:Nat} (e:J<=L.length) {n i:Nat} (h:i<=n):(aMH L J n i).length=n:=by unfold aMH;rw [zC,mZ,(aAP L e i).2,List.length_replicate];omega
theorem aUE(L:List Int) {J:Nat} (f:J<=L.length) {n i:Nat} (h:i<n):aMH L J n (i+1)=(aMH L J n i).set i [.int .u8 ((abc (nxV L (pH L J i).1 8)).toNat:Int)]:=by have e:=(aAP L f i).2;unfold aMH;rw [pH];obtain⟨k,j⟩:∃k,n-i=k+1:=⟨n-i-1,by omega⟩;rw [j,show n- (i+1)=k by omega,List.replicate_succ,List.set_append,if_neg (by rw [mZ,e];omega),mZ,e,Nat.sub_self,List.set_cons_zero];simp [jK]
theorem aWW(L:List Int) {J:Nat} (e:J<=L.length)(n:Nat):iD (List.take n (List.drop 0 (aMH L J n n)))=some (pH L J n).2:=by rw [List.drop_zero,zH (by rw [aMI L e (zJ n)];omega)];unfold aMH;rw [Nat.sub_self,List.replicate_zero,List.append_nil];exact kO _
theorem bRR(L:List Int) {J:Nat} (C:(L.length:Int)<2^62)(e:J<=L.length)(n:Nat)(N:n<=1000):
 ∃(s:ByteArray) (j:Nat),s.size=n/\j<=L.length/\aM Tryz.prog 48 [oH L J] [.ptr 0 0 0,.int .i64 (n:Int)] (.str s) [oH L j]:=by
 have z:=aAP L e n;refine⟨⟨(pH L J n).2.toArray⟩,(pH L J n).1,by show(pH L J n).2.toArray.size=n;rw [List.size_toArray];exact z.2,z.1,?_⟩;have m:=aWW L e n;refine aG (ob0:= [oH L J]) [] Tryz.func48 rfl rfl rfl rfl ?_;refine Wx ?_;rw [mkT (by omega) (by omega)];refine Wx ?_;refine Lp (λi:Nat=>i<=n) (λi=> [(11,.int .i64 (i:Int))]) (λi=> [(0,oH L (pH L J i).1),(1,.row 1 (aMH L J n i))]) (λi=>n-i) 0 (zE _) ?_ ?_
 ·exact Vr [_,_]
 intro i D;have M:=aMI L e D;obtain⟨f1,f2⟩:=aAP L e i;refine Wx ?_;refine iF (λb=>?_) (λb=>?_)
 ·have E:=aUE L e (show i<n by omega);have G:=bG9 L (pH L J i).1 8 C f1 (by decide) (by decide);have F:=aYU L (pH L J i).1 8 (by decide) (by decide);have f:(pH L J (i+1)).1=nxI L (pH L J i).1:=rfl;generalize nxV L (pH L J i).1 8=v at *;generalize nxI L (pH L J i).1=K at *;generalize(pH L J i).1=H at *;have B:v=0\/v=1\/v=2\/v=3\/v=4\/v=5\/v=6\/v=7:=by omega
  rcases B with rfl |rfl |rfl |rfl |rfl |rfl |rfl |rfl
  all_goals
   refine Wx ?_;refine Le (i+1) (hv:=?_);simp only [E,f];exact Vr [_,_]
 obtain rfl:i=n:=by omega
 exact Wo
def fW(c:Dc)(n:Int):Option (Nat×Us):=bif fZ c n then(c.fr.getD (n-1).toNat none).map λu=>((n-1).toNat,u) else none
theorem bN(c:Dc)(n:Int):(fW c n=none/\fZ c n=false)\/∃(m:Nat) (u:Us),fW c n=some (m,u)/\n=((m+1:Nat):Int)/\m<c.fr.length/\c.fr.getD m none=some u:=by
 unfold fW;rcases aR4 c n with h | ⟨m,u,rfl,h1,h2⟩
 ·rw [h];exact .inl ⟨rfl,rfl⟩
 ·refine .inr ⟨m,u,?_,rfl,h1,h2⟩;rw [mU h1 h2,show(((m+1:Nat):Int)-1).toNat=m by omega,h2];rfl
theorem Ok.goodS {c:Dc} (h:Ok c) {n:Nat} {u u':Us} (e:n<c.fr.length)(B:c.fr.getD n none=some u)(j:lC u'=lC u)(m:fJ u'.p)(z:u'.rd<4)(C:u'.wr<4):pU (c.setU n u') n u':=by
 have k:=h.use n u e B;have f:=h.file _ k.file;simp only [lC,Prod.mk.injEq] at j;obtain⟨k1,k2,k3⟩:=j;refine⟨by show n< (c.fr.set n (some u')).length;rw [zA];exact e,aE _ _ _ _ e,?_,?_,?_,?_,?_,m,?_,z,C⟩
 ·rw [k1];exact k.file
 ·rw [k2];have :=k.page;omega
 ·show bG (c.fl.getD u'.file aX).E;rw [k1];exact f.E
 ·show Sup (c.fl.getD u'.file aX).E;rw [k1];exact f.sup
 ·show 0< ((c.fl.getD u'.file aX).E u'.page).1;rw [k1,k2,k.val];omega
 ·rw [k3];show u.ten<c.ls.length;rw [h.nl];exact k.ten
def evG(c:Dc)(n:Int):Dc×Int:=match fW c n with
 |none=>(c,2)
 |some (m,u)=>bif dW u&&decide (u.p.d=0) then(c.evi m u,0) else(c,7)
theorem bPG(c:Dc)(h:Ok c)(n:Int):aM Tryz.prog 43 [] [.agg c.c,.int .i64 n] (.tup [.agg (evG c n).1.c,.int .i64 (evG c n).2]) []:=by
 unfold evG;rcases bN c n with ⟨e,j⟩| ⟨m,u,e,rfl,h1,h2⟩
 ·rw [e];exact bPH c n h.sm j
 ·rw [e];dsimp only;have j:=h.use m u h1 h2
  cases f:(dW u&&decide (u.p.d=0)) with
  |false=>exact bPF c m u h.sm h1 h2 f
  |true=> have f:=Bool.and_eq_true_iff.1 f;exact bRO c m u h.sm (h.good h1 h2) j.ten h.gr h.smZ (h.smL _) h.pt h.ptl (by rw [h.nk];exact j.ten) (h.ck _) f.1 (of_decide_eq_true f.2)
theorem aXH {c:Dc} (h:Ok c)(n:Int):Ok (evG c n).1:=by
 unfold evG;rcases bN c n with ⟨e,f⟩| ⟨m,u,e,rfl,h1,h2⟩
 ·rw [e];exact h
 ·rw [e];dsimp only
  cases(dW u&&decide (u.p.d=0)) with
  |false=>exact h
  |true=>exact h.evi h1 h2
def aEK(c:Dc)(n k:Int):Dc×Int:=match fW c n with
 |none=>(c,2)
 |some (m,u)=>bif decide ((-255<=k/\k<=255)/\0<=(u.holds:Int)+k/\(u.holds:Int)+k<=255) then(c.put m (aGD u ((u.holds:Int)+k).toNat),0) else(c,1)
theorem bPJ(c:Dc)(h:Ok c)(n k:Int):aM Tryz.prog 45 [] [.agg c.c,.int .i64 n,.int .i64 k] (.tup [.agg (aEK c n k).1.c,.int .i64 (aEK c n k).2]) []:=by
 unfold aEK;rcases bN c n with ⟨e,f⟩| ⟨m,u,e,rfl,h1,h2⟩
 ·rw [e];exact bPK c n k h.sm f
 ·rw [e];dsimp only;have f:=h.use m u h1 h2
  by_cases x:(-255<=k/\k<=255)/\0<=(u.holds:Int)+k/\(u.holds:Int)+k<=255
  ·rw [zdt x];exact bRP c m u h.sm (h.good h1 h2) f.holds k x.1 x.2.1 x.2.2 (h.goodS h1 h2 rfl f.pg f.rd f.wr)
  ·rw [zdf x];exact bPI c m u h.sm (h.good h1 h2) f.holds k x
theorem bCT {c:Dc} (h:Ok c)(n k:Int):Ok (aEK c n k).1:=by
 unfold aEK;rcases bN c n with ⟨e,f⟩| ⟨m,u,e,rfl,h1,h2⟩
 ·rw [e];exact h
 ·rw [e];dsimp only;have f:=h.use m u h1 h2
  by_cases x:(-255<=k/\k<=255)/\0<=(u.holds:Int)+k/\(u.holds:Int)+k<=255
  ·rw [zdt x];exact h.put h1 h2 rfl f.pg (by show((u.holds:Int)+k).toNat<=255;omega) f.rd f.wr
  ·rw [zdf x];exact h
def rbG(c:Dc)(n k:Int):Dc×Int:=match fW c n with
 |none=>(c,2)
 |some (m,u)=>bif decide ((1<=k/\k<=3)/\k.toNat &&& (u.p.v ||| u.rd)=0) then(c.put m (aDY u (u.rd ||| k.toNat)),0) else(c,1)
theorem or4 {a b:Nat} (e:a<4)(f:b<4):a ||| b<4:=zF (n:=2) e f
theorem aZO(c:Dc)(h:Ok c)(n k:Int):aM Tryz.prog 47 [] [.agg c.c,.int .i64 n,.int .i64 k] (.tup [.agg (rbG c n k).1.c,.int .i64 (rbG c n k).2]) []:=by
 unfold rbG;rcases bN c n with ⟨e,f⟩| ⟨m,u,e,rfl,h1,h2⟩
 ·rw [e];exact bPM c n k h.sm f
 ·rw [e];dsimp only;have f:=h.use m u h1 h2
  by_cases x:(1<=k/\k<=3)/\k.toNat &&& (u.p.v ||| u.rd)=0
  ·rw [zdt x];obtain⟨k,rfl⟩:∃j:Nat,k=(j:Int):=⟨k.toNat,by omega⟩;rw [zG] at *;exact bRQ c m u h.sm (h.good h1 h2) k (by omega) x.2 (h.goodS h1 h2 rfl f.pg (or4 f.rd (by omega)) f.wr)
  ·rw [zdf x];exact bPL c m u h.sm (h.good h1 h2) k x
theorem aHF {c:Dc} (h:Ok c)(n k:Int):Ok (rbG c n k).1:=by
 unfold rbG;rcases bN c n with ⟨e,f⟩| ⟨m,u,e,rfl,h1,h2⟩
 ·rw [e];exact h
 ·rw [e];dsimp only;have f:=h.use m u h1 h2
  by_cases x:(1<=k/\k<=3)/\k.toNat &&& (u.p.v ||| u.rd)=0
  ·rw [zdt x];exact h.put h1 h2 rfl f.pg f.holds (or4 f.rd (by omega)) f.wr
  ·rw [zdf x];exact h
def reG(c:Dc)(n:Int)(d:ByteArray)(ok:Bool):Dc×Int:=match fW c n with
 |none=>(c,2)
 |some (m,u)=>aBM c m u d ok
theorem aZP(c:Dc)(h:Ok c)(n:Int)(d:ByteArray)(ok:Bool):aM Tryz.prog 50 [] [.agg c.c,.int .i64 n,.str d,.bool ok] (.tup [.agg (reG c n d ok).1.c,.int .i64 (reG c n d ok).2]) []:=by
 unfold reG;rcases bN c n with ⟨e,f⟩| ⟨m,u,e,rfl,h1,h2⟩
 ·rw [e];exact bPN c n d ok h.sm f
 ·rw [e];exact bRS c h m u h1 h2 d ok
theorem bA9 {c:Dc} (h:Ok c)(n:Int)(d:ByteArray)(ok:Bool):Ok (reG c n d ok).1:=by
 unfold reG;rcases bN c n with ⟨e,f⟩| ⟨m,u,e,rfl,h1,h2⟩
 ·rw [e];exact h
 ·rw [e];exact bAC h h1 h2 d ok
def bgG(c:Dc)(n:Int):Dc×Int:=match fW c n with
 |none=>(c,2)
 |some (m,u)=>bif u.wr==0 then(bif u.p.d==0 then(c,4) else(bBZ c m u,0)) else(c,7)
theorem bJ5(c:Dc)(h:Ok c)(n:Int):∃j z B C D E,aM Tryz.prog 178 [] [.agg c.c,.int .i64 n] (.tup [.agg (bgG c n).1.c,aQT j z B C D E,.int .i64 (bgG c n).2]) []:=by
 unfold bgG;rcases bN c n with ⟨e,f⟩| ⟨m,u,e,rfl,h1,h2⟩
 ·rw [e];exact⟨_,_,_,_,_,_,bJ6 c n h.sm f⟩
 ·rw [e];dsimp only
  by_cases x:u.wr=0
  ·by_cases y:u.p.d=0
   ·have :=aZ4 c h m u h1 h2 (.inr y);rw [zbe.2 x,zbe.2 y];rw [zbe.2 x] at this;exact⟨_,_,_,_,_,_,this⟩
   ·rw [zbe.2 x,zbn.2 y];exact bNQ c h m u h1 h2 x y
  ·have :=aZ4 c h m u h1 h2 (.inl x);rw [zbn.2 x];rw [zbn.2 x] at this;exact⟨_,_,_,_,_,_,this⟩
theorem bHT {c:Dc} (h:Ok c)(n:Int):Ok (bgG c n).1:=by
 unfold bgG;rcases bN c n with ⟨e,f⟩| ⟨m,u,e,rfl,h1,h2⟩
 ·rw [e];exact h
 ·rw [e];dsimp only
  cases(u.wr==0) with
  |false=>exact h
  |true=>
   cases(u.p.d==0) with
   |true=>exact h
   |false=>exact bC0 h h1 h2
def enG(c:Dc)(n e:Int):Dc×Int:=match fW c n with
 |none=>(c,2)
 |some (m,u)=>bif u.wr==0 then(c,4) else(aPY c m u e,0)
theorem aQG(c:Dc)(h:Ok c)(n e:Int):aM Tryz.prog 177 [] [.agg c.c,.int .i64 n,.int .i64 e] (.tup [.agg (enG c n e).1.c,.int .i64 (enG c n e).2]) []:=by
 unfold enG;rcases bN c n with ⟨x,f⟩| ⟨m,u,x,rfl,h1,h2⟩
 ·rw [x];exact bJ4 c n e h.sm f
 ·rw [x];dsimp only
  by_cases y:u.wr=0
  ·rw [zbe.2 y];exact bJ3 c h m u h1 h2 y e
  ·rw [zbn.2 y];exact bNP c h m u h1 h2 y e
theorem bI1 {c:Dc} (h:Ok c)(n e:Int):Ok (enG c n e).1:=by
 unfold enG;rcases bN c n with ⟨x,f⟩| ⟨m,u,x,rfl,h1,h2⟩
 ·rw [x];exact h
 ·rw [x];dsimp only
  cases(u.wr==0) with
  |true=>exact h
  |false=>exact bCE h h1 h2 e
def vU(c:Dc)(f off:Int)(s:ByteArray):Dc×Int:=bif qD c f off s.size then aBW c f.toNat off.toNat s else(c,2)
theorem bH5(c:Dc)(h:Ok c)(f off:Int)(s:ByteArray)(E:s.size<=1000000):aM Tryz.prog 57 [] [.agg c.c,.int .i64 f,.int .i64 off,.str s] (.tup [.agg (vU c f off s).1.c,.int .i64 (vU c f off s).2]) []:=by
 unfold vU
 cases z:qD c f off s.size with
 |true=>
  obtain⟨f,off,n,rfl,rfl,e,D,C⟩:=kU z;have :n=s.size:=by omega
  subst this;exact bRV c h f off s D C
 |false=>
  have j:=aXZ c f;have m:=aBA off (s.size:Int);unfold qD at z;rw [zcf]
  cases B:decide (0<=f/\f< (c.fl.length:Int)) with
  |false=> rw [B] at j;refine aG (ob0:= []) [] Tryz.func57 rfl rfl rfl rfl ?_;exact Wz
  |true=> rw [B,zct] at z;rw [B] at j;rw [z] at m;refine aG (ob0:= []) [] Tryz.func57 rfl rfl rfl rfl ?_;exact Wz
theorem bBF {c:Dc} (h:Ok c) {f off:Nat} {s:ByteArray} (j:f<c.fl.length)(B:off+s.size<=128):Ok (aBW c f off s).1:=by
 unfold aBW
 cases(s.size==0) with
 |true=>exact h
 |false=>
  rw [zcf];obtain⟨D,m,F,G⟩:=vG h ((off+s.size:Nat):Int) j;obtain⟨z,E,H⟩:=aDD D (s:=s) (off:=off) (show f< (dG c f ((off+s.size:Nat):Int)).1.fl.length by rw [m];exact j) B _ (zJ _);have e:f< (wrL (dG c f ((off+s.size:Nat):Int)).1 f off s (cnt off s.size)).fl.length:=by rw [E,m];exact j
  have C:=(z.file f e).size
  cases lD c f off s.size true (cnt off s.size) with
  |none=>exact h
  |some L=>
   dsimp only
   cases((dG c f ((off+s.size:Nat):Int)).2==4) with
   |true=>exact h
   |false=>
    rw [zcf]
    cases(L.isEmpty&&(dG c f ((off+s.size:Nat):Int)).2==0) with
    |false=>exact h
    |true=>exact z.sz e (by omega)
theorem aU0 {c:Dc} (h:Ok c)(f off:Int)(s:ByteArray):Ok (vU c f off s).1:=by
 unfold vU
 cases m:qD c f off s.size with
 |false=>exact h
 |true=> obtain⟨f,off,n,rfl,rfl,e,j,z⟩:=kU m;exact bBF h j (by omega)
structure Sh(c d:Dc):Prop where
 fl:d.fl.length=c.fl.length
 fr:d.fr.length=c.fr.length
 zo:d.zo.length=c.zo.length
 gr:d.gr.length=c.gr.length
theorem Sh.refl(c:Dc):Sh c c:=⟨rfl,rfl,rfl,rfl⟩
theorem Sh.trans {a b c:Dc} (h:Sh a b)(k:Sh b c):Sh a c:=⟨k.fl.trans h.fl,k.fr.trans h.fr,k.zo.trans h.zo,k.gr.trans h.gr⟩
theorem aUV(l:List Zn)(f:Int):(eT l l f).1.length=l.length:=by
 unfold eT
 cases aZ l with
 |false=>rfl
 |true=>
  cases decide (eD (inG f) l<0) with
  |true=>rfl
  |false=>
   cases aCH (l.getD (eD (inG f) l).toNat gU).free f with
   |true=>rfl
   |false=>exact zA ..
theorem aW7(g:List Gr)(t:Nat):(gH g t).1.length=g.length:=by
 unfold gH
 cases decide ((g.getD t g0).chg<1) with
 |true=>rfl
 |false=>exact tF _ _ _
theorem aMK(g:List Gr)(t:Nat):(eM g t).1.length=g.length:=by
 unfold eM
 cases decide ((g.getD t g0).lim- (g.getD t g0).chg<1) with
 |true=>rfl
 |false=>exact tF _ _ _
theorem Sh.put(c:Dc)(m:Nat)(u:Us):Sh c (c.put m u):=⟨zA ..,zA ..,rfl,rfl⟩
theorem Sh.pts(c:Dc)(l:List Pt):Sh c (c.pts l):=⟨rfl,rfl,rfl,rfl⟩
theorem Sh.acc(c:Dc)(m t:Nat):Sh c (c.acc m t):=⟨rfl,rfl,rfl,rfl⟩
theorem Sh.gone(c:Dc)(m:Nat)(u:Us)(v:Int):Sh c (c.gone m u v):=⟨zA ..,zA ..,aUV _ _,aW7 _ _⟩
theorem Sh.evi(c:Dc)(m:Nat)(u:Us):Sh c (c.evi m u):=
 have k:=Sh.gone c m u (0- (c.ck.getD u.ten 0+1))
 ⟨k.fl,k.fr,k.zo,k.gr⟩
theorem Sh.ins(c:Dc)(f p t:Nat) {z:List Zn} {g:List Gr} (m:Nat)(e:z.length=c.zo.length)(hg:g.length=c.gr.length):Sh c (c.ins f p t z g m):=⟨zA ..,zA ..,e,hg⟩
theorem Sh.fl1(c:Dc)(f:Nat)(x:Df):Sh c ⟨c.fl.set f x,c.fr,c.zo,c.gr,c.ls,c.ck,c.pt⟩:=⟨zA ..,rfl,rfl,rfl⟩
theorem Sh.wi1(c:Dc)(f off n p:Nat):Sh c (aEQ c f off n p):=by
 unfold aEQ
 cases isW c f off n p with
 |true=>
  cases jH c f p with
  |none=>exact(Sh.fl1 c _ _).trans (Sh.fl1 _ _ _)
  |some x=>exact(Sh.gone c _ _ _).trans (Sh.fl1 _ _ _)
 |false=>
  cases jH c f p with
  |none=>exact Sh.refl c
  |some x=>exact Sh.put c _ _
theorem Sh.wiL(c:Dc)(f off n:Nat):∀k,Sh c (vT c f off n k)
 |0=>Sh.refl c
 |k+1=>(Sh.wiL c f off n k).trans (Sh.wi1 _ _ _ _ _)
theorem Sh.soi(c:Dc)(f:Nat)(e:Int):Sh c (dG c f e).1:=by
 unfold dG;split
 ·exact Sh.refl c
 ·split
  ·exact Sh.refl c
  ·cases(mK false _ _==0) with
   |true=>exact Sh.put c _ _
   |false=>exact Sh.refl c
theorem Sh.wr_(c:Dc)(f off:Nat)(s:ByteArray):∀k,Sh c (wrL c f off s k)
 |0=>Sh.refl c
 |k+1=>by
  have e:=Sh.wr_ c f off s k;rw [wrL];split
  ·exact(e.trans (Sh.put _ _ _)).trans (Sh.acc _ _ _)
  ·exact e
theorem Sh.writ(c:Dc)(f off:Int)(s:ByteArray):Sh c (vU c f off s).1:=by
 unfold vU
 cases qD c f off s.size with
 |false=>exact Sh.refl c
 |true=>
  rw [zct];unfold aBW
  cases(s.size==0) with
  |true=>exact Sh.refl c
  |false=>
   rw [zcf]
   cases lD c f.toNat off.toNat s.size true (cnt off.toNat s.size) with
   |none=>exact Sh.refl c
   |some L=>
    dsimp only
    cases((dG c f.toNat ((off.toNat+s.size:Nat):Int)).2==4) with
    |true=>exact Sh.refl c
    |false=>
     rw [zcf]
     cases(L.isEmpty&&(dG c f.toNat ((off.toNat+s.size:Nat):Int)).2==0) with
     |false=>exact Sh.refl c
     |true=>exact((Sh.soi c _ _).trans (Sh.wr_ _ _ _ _ _)).trans (Sh.fl1 _ _ _)
theorem Sh.ev(c:Dc)(n:Int):Sh c (evG c n).1:=by
 unfold evG;split
 ·exact Sh.refl c
 ·rename_i m u e
  cases(dW u&&decide (u.p.d=0)) with
  |false=>exact Sh.refl c
  |true=>exact Sh.evi c m u
theorem Sh.hol(c:Dc)(n k:Int):Sh c (aEK c n k).1:=by
 unfold aEK;split
 ·exact Sh.refl c
 ·rename_i m u e
  cases decide ((-255<=k/\k<=255)/\0<=(u.holds:Int)+k/\(u.holds:Int)+k<=255) with
  |false=>exact Sh.refl c
  |true=>exact Sh.put c _ _
theorem Sh.rb(c:Dc)(n k:Int):Sh c (rbG c n k).1:=by
 unfold rbG;split
 ·exact Sh.refl c
 ·rename_i m u e
  cases decide ((1<=k/\k<=3)/\k.toNat &&& (u.p.v ||| u.rd)=0) with
  |false=>exact Sh.refl c
  |true=>exact Sh.put c _ _
theorem Sh.re(c:Dc)(n:Int)(d:ByteArray)(ok:Bool):Sh c (reG c n d ok).1:=by
 unfold reG;split
 ·exact Sh.refl c
 ·rename_i m u e;unfold aBM
  cases(u.rd==0) with
  |true=>exact Sh.refl c
  |false=>
   cases(ok&&decide (d.size≠16)) with
   |true=>exact Sh.refl c
   |false=>exact Sh.put c _ _
theorem Sh.bg(c:Dc)(n:Int):Sh c (bgG c n).1:=by
 unfold bgG;split
 ·exact Sh.refl c
 ·rename_i m u e
  cases(u.wr==0) with
  |false=>exact Sh.refl c
  |true=>
   cases(u.p.d==0) with
   |true=>exact Sh.refl c
   |false=>exact(Sh.put c _ _).trans (Sh.pts _ _)
theorem Sh.en(c:Dc)(n e:Int):Sh c (enG c n e).1:=by
 unfold enG;split
 ·exact Sh.refl c
 ·rename_i m u x
  cases(u.wr==0) with
  |true=>exact Sh.refl c
  |false=>
   rw [zcf];unfold aPY
   cases(e==0) with
   |true=>exact(Sh.put c _ _).trans (Sh.fl1 _ _ _)
   |false=>exact(Sh.put c _ _).trans (Sh.fl1 _ _ _)
theorem Sh.iZ(c:Dc)(f p t e:Int)(j:Bool):Sh c (iZ c f p t e j).1:=by
 unfold Go.Proofs.YtmhapcbjjpadnaaGreat.iZ
 cases inI c f p t e with
 |false=>exact Sh.refl c
 |true=>
  rw [zct];unfold fC
  cases decide (0< ((c.fl.getD f.toNat aX).E p.toNat).1) with
  |true=>exact Sh.refl c
  |false=>
   rw [zcf]
   cases((eM c.gr t.toNat).2==0) with
   |false=>exact Sh.refl c
   |true=>
    rw [zct]
    cases((cS c.zo c.zo e j).2.2==0) with
    |false=>exact Sh.refl c
    |true=>exact Sh.ins c _ _ _ _ aW3 (aMK _ _)
theorem Sh.ent(c:Dc)(z j f a:Int)(w:Bool):Sh c (aC9 c z j f a w).1:=by
 unfold aC9
 cases inE c z j f a with
 |false=>exact Sh.refl c
 |true=>
  rw [zct];unfold aUP
  cases decide ((c.fl.getD f.toNat aX).size<=a.toNat*16) with
  |true=>exact Sh.refl c
  |false=>
   rw [zcf];split
   ·exact Sh.refl c
   ·rename_i m u e
    cases(decide (u.p.v≠3)||(w&&decide (u.wr≠0))) with
    |true=>exact Sh.refl c
    |false=>exact((Sh.put c _ _).trans (Sh.acc _ _ _)).trans (Sh.pts _ _)
theorem Sh.pun(c:Dc)(f off n:Int):Sh c (aD0 c f off n).1:=by
 unfold aD0
 cases qD c f off n with
 |false=>exact Sh.refl c
 |true=>
  rw [zct];unfold aVF
  cases(gP c f.toNat off.toNat (gT c f.toNat off.toNat n.toNat) (cnt off.toNat (gT c f.toNat off.toNat n.toNat))).2.2 with
  |false=>exact Sh.refl c
  |true=>exact Sh.wiL c _ _ _ _
theorem Sh.trn(c:Dc)(f z:Int):Sh c (uJ c f z).1:=by
 unfold uJ
 cases qD c f z 0 with
 |false=>exact Sh.refl c
 |true=>
  rw [zct];unfold aW5
  cases((dG c f.toNat (z.toNat:Int)).2==0) with
  |false=>exact Sh.refl c
  |true=>
   rw [zct]
   cases(gP c f.toNat z.toNat (gT c f.toNat z.toNat (128-z.toNat)) (cnt z.toNat (gT c f.toNat z.toNat (128-z.toNat)))).2.2 with
   |false=>exact Sh.refl c
   |true=>exact((Sh.soi c _ _).trans (Sh.wiL _ _ _ _ _)).trans (Sh.fl1 _ _ _)
theorem bPQ(off n:Nat)(h:1<=n)(h2:off+n<=128):aM Tryz.prog 66 [] [.int .i64 (off:Int),.int .i64 (n:Int)] (.sl 0 0 (vN off n)) [.row 1 (pgR (off/16) (vN off n))]:=by
 have f:=aBA (off:Int) (n:Int);rw [aC3 h2] at f;have e:vN off n=(off+n+15)/16-off/16:=rfl;have hc:=rI h2;unfold cnt at hc;rw [zdf (show ¬n=0 by omega),zcf] at hc;refine aG (ob0:= []) [] Tryz.func66 rfl rfl rfl rfl ?_;refine Wx ?_;refine Lp (λi:Nat=>i<=vN off n) (λi=> [(6,.int .i64 ((off/16+i:Nat):Int)),(5,.sl 0 0 i)]) (λi=> [(0,.row 1 (pgR (off/16) i))]) (λi=>vN off n-i) 0 (zE _) ?_ ?_
 ·exact Vr [none]
 intro i j;refine Wx ?_;refine iF (λb=>?_) (λb=>?_)
 ·refine Wx ?_;refine Le (i+1) (hv:=?_);simp only [aO9];exact Vr [_]
 obtain rfl:i=vN off n:=by omega
 exact Wo
def aBK(c:Dc)(f:Nat)(off n:Int):List Int:=(bif decide (1<=n)&&nF off n then(List.range' (off.toNat/16) (vN off.toNat n.toNat)).map (λx:Nat=>(x:Int)) else [])++(match oX (c.fl.getD f aX) (off+n) with |some (p,_)=> [(p:Int)] |none=> [])
theorem bE5 {c:Dc} (h:Ok c) {f:Nat} (C:f<c.fl.length)(off n:Int):(aBK c f off n).length<=9/\∀x∈aBK c f off n,∃p:Nat,x=(p:Int)/\p<8:=by
 unfold aBK
 have E:∀(o:Option (Nat×Nat)),oX (c.fl.getD f aX) (off+n)=o->(match o with |some (p,_)=> [(p:Int)] |none=> []).length<=1/\∀x∈(match o with |some (p,_)=> [(p:Int)] |none=> []),∃p:Nat,x=(p:Int)/\p<8:=by
  intro o D
  cases o with
  |none=>exact⟨zE _,λx e=>by cases e⟩
  |some y=> obtain⟨p,s⟩:=y;obtain⟨m,-⟩:=aAL D (h.file f C).size;exact⟨zJ _,λx e=>⟨p,List.mem_singleton.1 e,m⟩⟩
 obtain⟨m,z⟩:=E _ rfl
 cases j:(decide (1<=n)&&nF off n) with
 |false=> rw [zcf];exact⟨by rw [List.nil_append];omega,λx e=>z x (by simpa using e)⟩
 |true=>
  rw [zct];have j:=Bool.and_eq_true_iff.1 j;have h1:=of_decide_eq_true j.1;obtain⟨a,b,rfl,rfl,B⟩:=aPM j.2;rw [zG,zG];have hc:=rI B;unfold cnt at hc;rw [zdf (show ¬b=0 by omega),zcf] at hc;refine⟨by rw [zC,List.length_map,List.length_range'];omega,λx e=>?_⟩;rcases List.mem_append.1 e with e |e
  ·obtain⟨y,F,rfl⟩:=List.mem_map.1 e;rw [List.mem_range'_1] at F;exact⟨y,rfl,by omega⟩
  ·exact z x e
def aLH(d:Dc)(f:Nat)(p:Int)(n:Int):Dc:=match fW d n with
 |none=>d
 |some (m,u)=>bif !(mK false 3 (u.p.v ||| u.rd)==0)&&u.rd==0 then(reG (rbG d n (mK false 3 (u.p.v ||| u.rd):Nat)).1 n (tK f p.toNat) true).1 else d
def aQR(c:Dc)(f:Nat)(p:Int):Dc:=match jH c f p.toNat with
 |some (m,u)=>aLH c f p ((m+1:Nat):Int)
 |none=>bif (iZ c f p 0 ((c.zo.length:Int)-1) true).2.2==0 then aLH (iZ c f p 0 ((c.zo.length:Int)-1) true).1 f p (iZ c f p 0 ((c.zo.length:Int)-1) true).2.1 else c
def aD1(c:Dc)(f:Nat)(ps:List Int):Nat->Dc
 |0=>c
 |k+1=>aQR (aD1 c f ps k) f (ps.getD k 0)
theorem aT5 {d:Dc} (h:Ok d)(f:Nat)(p n:Int):Ok (aLH d f p n)/\Sh d (aLH d f p n):=by
 unfold aLH;split
 ·exact⟨h,Sh.refl d⟩
 ·cases(!(mK false 3 (_ ||| _)==0)&&_==0) with
  |false=>exact⟨h,Sh.refl d⟩
  |true=>exact⟨bA9 (aHF h _ _) _ _ _,(Sh.rb d _ _).trans (Sh.re _ _ _ _)⟩
theorem bE3 {c:Dc} (h:Ok c)(f:Nat)(p:Int):Ok (aQR c f p)/\Sh c (aQR c f p):=by
 unfold aQR;split
 ·exact aT5 h _ _ _
 ·cases((iZ c f p 0 ((c.zo.length:Int)-1) true).2.2==0) with
  |false=>exact⟨h,Sh.refl c⟩
  |true=> obtain⟨h1,h2⟩:=aT5 (aB1 h f p 0 ((c.zo.length:Int)-1) true) f p (iZ c f p 0 ((c.zo.length:Int)-1) true).2.1;exact⟨h1,(Sh.iZ c _ _ _ _ _).trans h2⟩
theorem aBJ {c:Dc} (h:Ok c)(f:Nat)(ps:List Int):∀k,Ok (aD1 c f ps k)/\Sh c (aD1 c f ps k)
 |0=>⟨h,Sh.refl c⟩
 |k+1=>by obtain⟨h1,h2⟩:=aBJ h f ps k;obtain⟨e,h4⟩:=bE3 h1 f (ps.getD k 0);exact⟨e,h2.trans h4⟩
theorem aYA {c:Dc} (h:Ok c) {f p t j:Int} {z:Bool} (e:(iZ c f p t j z).2.2=0):∃(m:Nat) (u:Us),(iZ c f p t j z).2.1=((m+1:Nat):Int)/\m< (iZ c f p t j z).1.fr.length/\(iZ c f p t j z).1.fr.getD m none=some u:=by
 unfold iZ at e⊢
 cases C:inI c f p t j with
 |false=>rw [C] at e;cases e
 |true=>
  rw [C,zct] at e;rw [zct];unfold fC at e⊢
  cases h1:decide (0< ((c.fl.getD f.toNat aX).E p.toNat).1) with
  |true=>rw [h1] at e;cases e
  |false=>
   rw [h1,zcf] at e;rw [zcf]
   cases h2:((eM c.gr t.toNat).2==0) with
   |false=>rw [h2,zcf] at e;rw [e] at h2;cases h2
   |true=>
    rw [h2,zct] at e;rw [zct]
    cases B:((cS c.zo c.zo j z).2.2==0) with
    |false=>rw [B,zcf] at e;rw [e] at B;cases B
    |true=> rw [zct];obtain⟨m,D,F,G⟩:=take_at h (eq_of_beq B);dsimp only;rw [F,show(((m+1:Nat):Int)-1).toNat=m by omega];exact⟨m,aCJ c f.toNat p.toNat t.toNat,rfl,by show m< (c.fr.set m _).length;rw [zA];exact D,aE _ _ _ _ D⟩
end Go.Proofs.YtmhapcbjjpadnaaGreat
