/- Caches. -/
import Derived.Test.YtmhapcbjjpadnaaGreatGMb
import Derived.Test.YtmhapcbjjpadnaaGreatGJb
import Derived.Test.YtmhapcbjjpadnaaGreatG7b
import Derived.Test.YtmhapcbjjpadnaaGreatK8b
import Derived.Test.YtmhapcbjjpadnaaGreatGGb
import Derived.Test.YtmhapcbjjpadnaaGreatXRNb
set_option linter.all false
set_option maxRecDepth 40000
namespace Go.Proofs.YtmhapcbjjpadnaaGreat
open Go Go.Sk Go.RowKit
theorem Ok.x {c:Dc} (h:Ok c):Ok c.x:=by
 have e:gX c.x.zo c.zo:=by
  show(c.zo.map noZ).map gF=c.zo.map gF
  rw [List.map_map];rfl
 refine⟨h.nf,h.nr,h.ng,h.nl,h.nk,h.file,λn u hn hu=>?_,h.ent,by rw [e.check];exact h.zone,λz hz x hx=>?_,h.gr,h.ls,h.mem,h.ck,h.pt⟩
 ·have k:=h.use n u hn hu
  exact⟨k.file,k.page,k.pg,k.ten,k.holds,k.rd,k.wr,k.val⟩
 ·obtain⟨w,hw,rfl⟩:=List.mem_map.1 hz
  exact h.free w hw x hx
def bOP(c:Dc)(n k:Int):Dc×Int:=match fA c n with
 |none=>(c.x,2)
 |some (m,u)=>bif decide (k<=255- (u.holds:Int)/\-(u.holds:Int)<=k) then(c.x.setU m (aBT u ((u.holds:Int)+k).toNat),0) else(c.x,1)
end Go.Proofs.YtmhapcbjjpadnaaGreat
namespace Go.Proofs.YtmhapcbjjpadnaaGreat
open Go Go.Sk Go.RowKit
def rbP(c:Dc)(n k:Int):Dc×Int:=match fA c n with
 |none=>(c.x,2)
 |some (m,u)=>bif decide ((1<=k/\k<=3)/\k.toNat &&& (u.p.v ||| u.rd)=0) then(c.x.setU m (aC6 u (u.rd ||| k.toNat)),0) else(c.x,1)
noncomputable def R46:Rsv Tryz.prog Tryz.f46 [] 3:=⟨_,_,rfl,rfl⟩
def evP(c:Dc)(n:Int):Dc×Int:=match fA c n with
 |none=>(c.x,2)
 |some (m,u)=>bif mA u&&decide (u.p.d=0) then(⟨(c.x.goneP m u (0- (c.ck.getD u.ten 0+1))).fl,(c.x.goneP m u (0- (c.ck.getD u.ten 0+1))).fr,(c.x.goneP m u (0- (c.ck.getD u.ten 0+1))).zo,(c.x.goneP m u (0- (c.ck.getD u.ten 0+1))).gr,(c.x.goneP m u (0- (c.ck.getD u.ten 0+1))).ls,c.ck.set u.ten (min (c.ck.getD u.ten 0+1) 1000000),(c.x.goneP m u (0- (c.ck.getD u.ten 0+1))).pt⟩,0) else(c.x,7)
noncomputable def R42:aJ9 Tryz.prog Tryz.f42 [] 2:=⟨_,_,_,_,_,_,_,rfl,rfl,rfl⟩
end Go.Proofs.YtmhapcbjjpadnaaGreat
namespace Go.Proofs.YtmhapcbjjpadnaaGreat
open Go Go.Sk Go.RowKit
theorem bFA(n:Nat)(h:n<=16):bF9 ⟨#[0]⟩ n=zB n:=by
 have key:∀n:Fin 17,(Lib.repeatL [(0:UInt8)] n.val)=List.replicate n.val 0:=by decide
 show(⟨(Lib.repeatL [(0:UInt8)] n).toArray⟩:ByteArray)=_
 rw [key ⟨n,by omega⟩];rfl
theorem bE5(n:Nat)(h:n<=16):aM Tryz.prog 158 [] [.str ⟨#[0]⟩,.int .i64 (n:Int)] (.str (zB n)) []:=by
 rw [<-bFA n h]
 exact bAZ ⟨#[0]⟩ n (by omega) (by show 1*n<=_;omega)
def bKD(c:Dc)(m:Nat)(u:Us)(d:ByteArray)(ok:Bool):Dc×Int:=bif u.rd==0 then(c.x,4) else bif ok&&decide (d.size≠16) then(c.x,1) else(c.x.setU m (aEZ c u d ok),0)
def reP(c:Dc)(n:Int)(d:ByteArray)(ok:Bool):Dc×Int:=match fA c n with
 |none=>(c.x,2)
 |some (m,u)=>bKD c m u d ok
noncomputable def R49:aJ9 Tryz.prog Tryz.f49 [] 4:=⟨_,_,_,_,_,_,_,rfl,rfl,rfl⟩
end Go.Proofs.YtmhapcbjjpadnaaGreat
namespace Go.Proofs.YtmhapcbjjpadnaaGreat
open Go Go.Sk Go.RowKit
theorem aN4(c:Dc)(f:Int):aM Tryz.prog 141 [] [.agg c.c,.int .i64 f] (.bool (decide (0<=f/\f< (c.fl.length:Int)))) []:=by
 by_cases e:0<=f
 ·by_cases e2:f< (c.fl.length:Int)
  ·rw [decide_eq_true (show 0<=f/\f< (c.fl.length:Int) from⟨e,e2⟩)]
   refine aK (ob0:= []) [] Tryz.func141 rfl rfl rfl rfl ?_
   exact jR
  ·rw [decide_eq_false (λh=>e2 h.2)]
   refine aK (ob0:= []) [] Tryz.func141 rfl rfl rfl rfl ?_
   exact jR
 ·rw [decide_eq_false (λh=>e h.1)]
  refine aK (ob0:= []) [] Tryz.func141 rfl rfl rfl rfl ?_
  exact jR
theorem xb(c:Dc):c.x.b=[.box [.sl 1 0 c.fl.length,.sl 2 0 c.fr.length,.lst 6 false (aQ (c.zo.map noZ)),.lst 3 false (bC c.gr),.sl 3 0 c.ls.length,.sl 4 0 c.ck.length,.lst 5 false (aY c.pt)],.row 15 (bA c.fl),.row 9 (aV c.fr),.row 3 (bW c.ls),.row 1 (aE c.ck)]:=rfl
def Dc.bGU(c:Dc)(f p t:Nat)(z:List Zn)(g:List Gr)(m:Nat):Dc:=
 ⟨c.fl.set f (eP (c.fl.getD f aP) (cI (c.fl.getD f aP).E p (((m+1:Nat):Int),0))),c.fr.set m (some (vL c f p t)),z,g,c.ls.set t (aMB (c.ls.getD t l0) ((m+1:Nat):Int) (aN7 c f p t)).1,c.ck,c.pt⟩
def bGV(c:Dc)(f p t:Nat)(pf:Int)(ur:Bool):Dc×Int×Int:=
 bif decide (0< ((c.fl.getD f aP).E p).1) then(c.x,0,5) else
 bif (cK c.gr t).2==0 then
  (bif (cJ (c.zo.map gF) c.zo pf ur).2.2==0 then(c.bGU f p t (cJ (c.zo.map gF) c.zo pf ur).1 (cK c.gr t).1 ((cJ (c.zo.map gF) c.zo pf ur).2.1-1).toNat,(cJ (c.zo.map gF) c.zo pf ur).2.1,0) else(c.x,0,(cJ (c.zo.map gF) c.zo pf ur).2.2))
 else(c.x,0,(cK c.gr t).2)
def bGU(c:Dc)(f p t pf:Int)(ur:Bool):Dc×Int×Int:=bif inI c f p t pf then bGV c f.toNat p.toNat t.toNat pf ur else(c.x,0,2)
noncomputable def R40:aJ9 Tryz.prog Tryz.f40 [] 6:=⟨_,_,_,_,_,_,_,rfl,rfl,rfl⟩
end Go.Proofs.YtmhapcbjjpadnaaGreat
