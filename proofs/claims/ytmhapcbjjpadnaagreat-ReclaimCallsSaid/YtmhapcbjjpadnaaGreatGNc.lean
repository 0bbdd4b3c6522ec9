/- Caches. -/
import Derived.Test.YtmhapcbjjpadnaaGreatGMc
import Derived.Test.YtmhapcbjjpadnaaGreatGJc
import Derived.Test.YtmhapcbjjpadnaaGreatG7c
import Derived.Test.YtmhapcbjjpadnaaGreatK8c
import Derived.Test.YtmhapcbjjpadnaaGreatGGc
import Derived.Test.YtmhapcbjjpadnaaGreatXRNc
set_option linter.all false
set_option maxRecDepth 40000
namespace Go.Proofs.YtmhapcbjjpadnaaGreat
open Go Go.Sk Go.RowKit
theorem Ok.x {c:Dc} (h:Ok c):Ok c.x:=by
 have e:fB c.x.zo c.zo:=by show(c.zo.map noZ).map gM=c.zo.map gM;rw [List.map_map];rfl
 refine⟨h.nf,h.nr,h.ng,h.nl,h.nk,h.file,λn u f j=>?_,h.ent,by rw [e.check];exact h.zone,λz C x B=>?_,h.gr,h.ls,h.mem,h.ck,h.pt⟩
 ·have k:=h.use n u f j;exact⟨k.file,k.page,k.pg,k.ten,k.holds,k.rd,k.wr,k.val⟩
 ·obtain⟨w,m,rfl⟩:=List.mem_map.1 C;exact h.free w m x B
def rbP(c:Dc)(n k:Int):Dc×Int:=match fW c n with
 |none=>(c.x,2)
 |some (m,u)=>bif decide ((1<=k/\k<=3)/\k.toNat &&& (u.p.v ||| u.rd)=0) then(c.x.setU m (aEM u (u.rd ||| k.toNat)),0) else(c.x,1)
noncomputable def R46:Rsv Tryz.prog Tryz.f46 [] 3:=⟨_,_,rfl,rfl⟩
def evP(c:Dc)(n:Int):Dc×Int:=match fW c n with
 |none=>(c.x,2)
 |some (m,u)=>bif iJ u&&decide (u.p.d=0) then(⟨(c.x.goneP m u (0- (c.ck.getD u.ten 0+1))).fl,(c.x.goneP m u (0- (c.ck.getD u.ten 0+1))).fr,(c.x.goneP m u (0- (c.ck.getD u.ten 0+1))).zo,(c.x.goneP m u (0- (c.ck.getD u.ten 0+1))).gr,(c.x.goneP m u (0- (c.ck.getD u.ten 0+1))).ls,c.ck.set u.ten (min (c.ck.getD u.ten 0+1) 1000000),(c.x.goneP m u (0- (c.ck.getD u.ten 0+1))).pt⟩,0) else(c.x,7)
noncomputable def R42:bN7 Tryz.prog Tryz.f42 [] 2:=⟨_,_,_,_,_,_,_,rfl,rfl,rfl⟩
end Go.Proofs.YtmhapcbjjpadnaaGreat
