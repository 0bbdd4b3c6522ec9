/- Caches. -/
import Derived.Test.YtmhapcbjjpadnaaGreatGHm
import Derived.Test.YtmhapcbjjpadnaaGreatGFm
set_option linter.unusedSimpArgs false
set_option linter.unusedVariables false
set_option linter.constructorNameAsVariable false
set_option maxRecDepth 40000
namespace Go.Proofs.YtmhapcbjjpadnaaGreat
open Go Go.Sk Go.RowKit
def Dc.pts(c:Dc)(l:List Pt):Dc:=⟨c.fl,c.fr,c.zo,c.gr,c.ls,c.ck,l⟩
def bIM(u:Us)(w:Bool):Us:=bif w then cD u (gM u.p 3) else u
def bIY(pr pg:Int)(m:Nat)(w:Bool):Pt:=⟨pr,pg,((m+1:Nat):Int),w,true⟩
def bIJ(c:Dc)(pr pg:Int)(f at_:Nat)(w:Bool):Dc×Int:=
 bif decide ((c.fl.getD f aK).size≤at_*16) then(c,12) else
 match cC c f at_ with
 |none=>(c,4)
 |some (m,u)=>bif (decide (u.p.v≠3)||(w&&decide (u.wr≠0))) then(c,7) else(((c.put m (bIM u w)).acc m u.ten).pts (bIL c.pt (bIY pr pg m w)),0)
def inE(c:Dc)(pr pg f at_:Int):Bool:=decide ((0≤f∧f< (c.fl.length:Int))∧(0≤pr∧pr<8)∧(0≤pg∧pg<64)∧0≤at_∧at_<8)
def bIK(c:Dc)(pr pg f at_:Int)(w:Bool):Dc×Int:=bif inE c pr pg f at_ then bIJ c pr pg f.toNat at_.toNat w else(c,2)
end Go.Proofs.YtmhapcbjjpadnaaGreat
