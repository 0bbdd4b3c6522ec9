/- Caches. -/
import Derived.Test.YtmhapcbjjpadnaaGreatGJc
import Derived.Test.YtmhapcbjjpadnaaGreatK8c
import Derived.Test.YtmhapcbjjpadnaaGreatG8c
set_option linter.all false
set_option maxHeartbeats 16000000
set_option maxRecDepth 40000
open List renaming replicate→zA,length_replicate→zC,getD_eq_getElem?_getD→zD,map_replicate→zE,getElem?_replicate→zF
namespace Go.Proofs.YtmhapcbjjpadnaaGreat
open Go Go.Sk Go.RowKit
inductive pS:Dc->Dc->Prop
 |refl (c:Dc):pS c c
 |trans {a b c:Dc} (h:pS a b) (k:pS b c):pS a c
 |ins (c:Dc) (f p t pf:Int) (ur:Bool):pS c (jI c f p t pf ur).1
 |rdy (c:Dc) (f:Nat) (ps:List Int) (k:Nat):pS c (aDN c f ps k)
 |wrt (c:Dc) (f off:Int) (s:ByteArray):pS c (aAC c f off s).1
 |bg (c:Dc) (n:Int):pS c (bgG c n).1
 |en (c:Dc) (n e:Int):pS c (enG c n e).1
 |rb (c:Dc) (n k:Int):pS c (rbG c n k).1
 |re (c:Dc) (n:Int) (d:ByteArray) (ok:Bool):pS c (reG c n d ok).1
 |ev (c:Dc) (n:Int):pS c (evG c n).1
 |hol (c:Dc) (n k:Int):pS c (aF9 c n k).1
 |trn (c:Dc) (f z:Int):pS c (uY c f z).1
 |pun (c:Dc) (f off n:Int):pS c (aDM c f off n).1
 |ent (c:Dc) (pr pg f a:Int) (w:Bool):pS c (aCY c pr pg f a w).1
theorem pS.sh {c d:Dc} (k:pS c d):Ok c->Ok d/\Sh c d:=by
 induction k with
 |refl c=>exact λh=>⟨h,Sh.refl c⟩
 |trans h k j B=>exact λo=>⟨(B (j o).1).1,(j o).2.trans (B (j o).1).2⟩
 |ins c f p t C G=>exact λh=>⟨aBK h _ _ _ _ _,Sh.jI _ _ _ _ _ _⟩
 |rdy c f F k=>exact λh=>aC5 h _ _ _
 |wrt c f m s=>exact λh=>⟨aUZ h _ _ _,Sh.writ _ _ _ _⟩
 |bg c n=>exact λh=>⟨bII h _,Sh.bg _ _⟩
 |en c n e=>exact λh=>⟨bIQ h _ _,Sh.en _ _ _⟩
 |rb c n k=>exact λh=>⟨aI4 h _ _,Sh.rb _ _ _⟩
 |re c n d ok=>exact λh=>⟨bAY h _ _ _,Sh.re _ _ _ _⟩
 |ev c n=>exact λh=>⟨aYD h _,Sh.ev _ _⟩
 |hol c n k=>exact λh=>⟨bD5 h _ _,Sh.hol _ _ _⟩
 |trn c f z=>exact λh=>⟨bF1 h _ _,Sh.trn _ _ _⟩
 |pun c f m n=>exact λh=>⟨bE4 h _ _ _,Sh.pun _ _ _ _⟩
 |ent c E D f a w=>exact λh=>⟨bCV h _ _ _ _ _,Sh.ent _ _ _ _ _ _⟩
noncomputable def pQ:Rsv Tryz.prog Tryz.f184 [] 2:=⟨_,_,rfl,rfl⟩
end Go.Proofs.YtmhapcbjjpadnaaGreat
