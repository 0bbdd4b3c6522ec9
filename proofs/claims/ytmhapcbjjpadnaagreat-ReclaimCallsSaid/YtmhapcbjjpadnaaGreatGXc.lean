/- Caches. -/
import Derived.Test.YtmhapcbjjpadnaaGreatGGc
set_option linter.all false
set_option maxHeartbeats 8000000
set_option maxRecDepth 40000
namespace Go.Proofs.YtmhapcbjjpadnaaGreat
open Go Go.Sk Go.RowKit
theorem aYT(c:Dc)(f:Int):aM Tryz.prog 115 [] [.agg c.c,.int .i64 f] (.bool (decide (0<=f/\f< (c.fl.length:Int)))) []:=by
 by_cases e:0<=f/\f< (c.fl.length:Int)
 ·rw [zdt e];have :=aHQ c f.toNat (by omega)
  rwa [show((f.toNat:Nat):Int)=f by omega] at this
 ·rw [zdf e];exact bJO c f e
end Go.Proofs.YtmhapcbjjpadnaaGreat
