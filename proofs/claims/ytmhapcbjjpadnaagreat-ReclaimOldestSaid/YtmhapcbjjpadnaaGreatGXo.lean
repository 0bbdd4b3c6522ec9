/- Caches. -/
import Derived.Test.YtmhapcbjjpadnaaGreatGGo
set_option linter.all false
set_option maxHeartbeats 8000000
set_option maxRecDepth 40000
namespace Go.Proofs.YtmhapcbjjpadnaaGreat
open Go Go.Sk Go.RowKit
theorem bGL(c:Dc)(f:Int):aN Tryz.prog 115 [] [.agg c.c,.int .i64 f] (.bool (decide (0<=f/\f< (c.fl.length:Int)))) []:=by
 by_cases e:0<=f/\f< (c.fl.length:Int)
 ·rw [zdt e];have :=aCQ c f.toNat (by omega)
  rwa [show((f.toNat:Nat):Int)=f by omega] at this
 ·rw [zdf e];exact bHA c f e
end Go.Proofs.YtmhapcbjjpadnaaGreat
