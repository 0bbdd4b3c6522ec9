/- Caches. -/
import Derived.Test.YtmhapcbjjpadnaaGreatGJg
import Derived.Test.YtmhapcbjjpadnaaGreatK8g
import Derived.Test.YtmhapcbjjpadnaaGreatG8g
set_option linter.all false
set_option maxHeartbeats 16000000
set_option maxRecDepth 40000
open List renaming replicate→zA,length_replicate→zC,getD_eq_getElem?_getD→zD,map_replicate→zE,getElem?_replicate→zF
namespace Go.Proofs.YtmhapcbjjpadnaaGreat
open Go Go.Sk Go.RowKit
inductive pT:Dc->Dc->Prop
 |refl (c:Dc):pT c c
 |trans {a b c:Dc} (h:pT a b) (k:pT b c):pT a c
 |ins (c:Dc) (f p t pf:Int) (ur:Bool):pT c (iZ c f p t pf ur).1
 |rdy (c:Dc) (f:Nat) (ps:List Int) (k:Nat):pT c (aD1 c f ps k)
 |wrt (c:Dc) (f off:Int) (s:ByteArray):pT c (vU c f off s).1
 |bg (c:Dc) (n:Int):pT c (bgG c n).1
 |en (c:Dc) (n e:Int):pT c (enG c n e).1
 |rb (c:Dc) (n k:Int):pT c (rbG c n k).1
 |re (c:Dc) (n:Int) (d:ByteArray) (ok:Bool):pT c (reG c n d ok).1
 |ev (c:Dc) (n:Int):pT c (evG c n).1
 |hol (c:Dc) (n k:Int):pT c (aEK c n k).1
 |trn (c:Dc) (f z:Int):pT c (uJ c f z).1
 |pun (c:Dc) (f off n:Int):pT c (aD0 c f off n).1
 |ent (c:Dc) (pr pg f a:Int) (w:Bool):pT c (aC9 c pr pg f a w).1
theorem pT.sh {c d:Dc} (k:pT c d):Ok c->Ok d/\Sh c d:=by
 induction k with
 |refl c=>exact λh=>⟨h,Sh.refl c⟩
 |trans h k j B=>exact λo=>⟨(B (j o).1).1,(j o).2.trans (B (j o).1).2⟩
 |ins c f p t C G=>exact λh=>⟨aB1 h _ _ _ _ _,Sh.iZ _ _ _ _ _ _⟩
 |rdy c f F k=>exact λh=>aBJ h _ _ _
 |wrt c f m s=>exact λh=>⟨aU0 h _ _ _,Sh.writ _ _ _ _⟩
 |bg c n=>exact λh=>⟨bHT h _,Sh.bg _ _⟩
 |en c n e=>exact λh=>⟨bI1 h _ _,Sh.en _ _ _⟩
 |rb c n k=>exact λh=>⟨aHF h _ _,Sh.rb _ _ _⟩
 |re c n d ok=>exact λh=>⟨bA9 h _ _ _,Sh.re _ _ _ _⟩
 |ev c n=>exact λh=>⟨aXH h _,Sh.ev _ _⟩
 |hol c n k=>exact λh=>⟨bCT h _ _,Sh.hol _ _ _⟩
 |trn c f z=>exact λh=>⟨bEJ h _ _,Sh.trn _ _ _⟩
 |pun c f m n=>exact λh=>⟨bDS h _ _ _,Sh.pun _ _ _ _⟩
 |ent c E D f a w=>exact λh=>⟨bCG h _ _ _ _ _,Sh.ent _ _ _ _ _ _⟩
noncomputable def pF:Rsv Tryz.prog Tryz.f184 [] 2:=⟨_,_,rfl,rfl⟩
end Go.Proofs.YtmhapcbjjpadnaaGreat
