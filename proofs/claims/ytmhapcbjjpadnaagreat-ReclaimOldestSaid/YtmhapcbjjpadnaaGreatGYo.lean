/- Caches. -/
import Derived.Test.YtmhapcbjjpadnaaGreatGJo
import Derived.Test.YtmhapcbjjpadnaaGreatK8o
import Derived.Test.YtmhapcbjjpadnaaGreatG8o
set_option linter.all false
set_option maxRecDepth 40000
open List renaming replicate→zA,length_replicate→zC,getD_eq_getElem?_getD→zD,getElem?_replicate→zE
namespace Go.Proofs.YtmhapcbjjpadnaaGreat
open Go Go.Sk Go.RowKit
inductive Stp:Dc->Dc->Prop
 |refl (c:Dc):Stp c c
 |trans {a b c:Dc} (h:Stp a b) (k:Stp b c):Stp a c
 |ins (c:Dc) (f p t pf:Int) (ur:Bool):Stp c (mU c f p t pf ur).1
 |rdy (c:Dc) (f:Nat) (ps:List Int) (k:Nat):Stp c (bC4 c f ps k)
 |wrt (c:Dc) (f off:Int) (s:ByteArray):Stp c (aDM c f off s).1
 |bg (c:Dc) (n:Int):Stp c (bgG c n).1
 |en (c:Dc) (n e:Int):Stp c (enG c n e).1
 |rb (c:Dc) (n k:Int):Stp c (rbG c n k).1
 |re (c:Dc) (n:Int) (d:ByteArray) (ok:Bool):Stp c (reG c n d ok).1
 |ev (c:Dc) (n:Int):Stp c (evG c n).1
 |hol (c:Dc) (n k:Int):Stp c (aWE c n k).1
 |trn (c:Dc) (f z:Int):Stp c (rW c f z).1
 |pun (c:Dc) (f off n:Int):Stp c (aXY c f off n).1
 |ent (c:Dc) (pr pg f a:Int) (w:Bool):Stp c (aVP c pr pg f a w).1
theorem Stp.sh {c d:Dc} (k:Stp c d):Ok c->Ok d/\Sh c d:=by
 induction k with
 |refl c=>exact λh=>⟨h,Sh.refl c⟩
 |trans h k j B=>exact λo=>⟨(B (j o).1).1,(j o).2.trans (B (j o).1).2⟩
 |ins c f p t C G=>exact λh=>⟨aDY h _ _ _ _ _,Sh.mU _ _ _ _ _ _⟩
 |rdy c f F k=>exact λh=>aRO h _ _ _
 |wrt c f m s=>exact λh=>⟨aSH h _ _ _,Sh.writ _ _ _ _⟩
 |bg c n=>exact λh=>⟨bFT h _,Sh.bg _ _⟩
 |en c n e=>exact λh=>⟨bG1 h _ _,Sh.en _ _ _⟩
 |rb c n k=>exact λh=>⟨aY0 h _ _,Sh.rb _ _ _⟩
 |re c n d ok=>exact λh=>⟨aYC h _ _ _,Sh.re _ _ _ _⟩
 |ev c n=>exact λh=>⟨aVR h _,Sh.ev _ _⟩
 |hol c n k=>exact λh=>⟨bAV h _ _,Sh.hol _ _ _⟩
 |trn c f z=>exact λh=>⟨aE9 h _ _,Sh.trn _ _ _⟩
 |pun c f m n=>exact λh=>⟨bBQ h _ _ _,Sh.pun _ _ _ _⟩
 |ent c E D f a w=>exact λh=>⟨bAI h _ _ _ _ _,Sh.ent _ _ _ _ _ _⟩
def eE:dA:=λ_=>(0,0)
end Go.Proofs.YtmhapcbjjpadnaaGreat
