/- Caches. -/
import Derived.Test.YtmhapcbjjpadnaaGreatGIm
import Derived.Test.YtmhapcbjjpadnaaGreatGHm
set_option linter.unusedSimpArgs false
set_option linter.unusedVariables false
set_option linter.constructorNameAsVariable false
set_option maxRecDepth 40000
namespace Go.Proofs.YtmhapcbjjpadnaaGreat
open Go Go.Sk Go.RowKit
def inI(c:Dc)(f p t pf:Int):Bool:=decide ((0≤f∧f< (c.fl.length:Int))∧(0≤p∧p<8)∧(0≤t∧t< (c.gr.length:Int))∧0≤pf∧pf< (c.zo.length:Int))
def jB(c:Dc)(f p t pf:Int)(ur:Bool):Dc×Int×Int:=bif inI c f p t pf then eA c f.toNat p.toNat t.toNat pf ur else(c,0,2)
theorem aNB {c:Dc} (h:Ok c)(f p t pf:Int)(ur:Bool):Ok (jB c f p t pf ur).1:=by
 unfold jB inI
 by_cases e:(0≤f∧f< (c.fl.length:Int))∧(0≤p∧p<8)∧(0≤t∧t< (c.gr.length:Int))∧0≤pf∧pf< (c.zo.length:Int)
 ·rw [decide_eq_true e]
  exact aWU h pf ur (by omega) (by omega) (by omega)
 ·rw [decide_eq_false e];exact h
theorem bH1 {L:List Int} {k:Nat} (h:k<L.length):(aJ L).getD k []=[.int .i64 (L.getD k 0)]:=by simp [aJ,List.getD_eq_getElem?_getD,h]
end Go.Proofs.YtmhapcbjjpadnaaGreat
