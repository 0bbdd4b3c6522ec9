/- Caches. -/
import Derived.Test.YtmhapcbjjpadnaaGreatGGm
import Derived.Test.YtmhapcbjjpadnaaGreatK8m
set_option linter.unusedSimpArgs false
set_option linter.unusedVariables false
set_option linter.constructorNameAsVariable false
set_option maxRecDepth 40000
namespace Go.Proofs.YtmhapcbjjpadnaaGreat
open Go Go.Sk Go.RowKit
theorem aU1 {L:List Df} {f b:Nat} (h:f<L.length)(hE:bK (L.getD f aK).E):bG (L.set f (fbl (L.getD f aK) b))=(bG L).set f (aR 15 (L.getD f aK).c 7 [.int .i64 (b:Int)]):=by
 rw [bG,bG,List.map_set]
 obtain⟨k0,k1,k2,k3,e,e3⟩:=Df.cells hE
 congr 1
 unfold Df.c fbl
 dsimp only
 rw [e3]
 rfl
theorem aT1 {x k:Nat} (hx:x<256)(hk:k<8):fN .andNot .i64 (x:Int) ((2^k:Nat):Int)=((qT x k:Nat):Int):=by
 have key:∀x:Fin 256,∀k:Fin 8,fN .andNot .i64 (x.val:Int) ((2^k.val:Nat):Int)=((qT x.val k.val:Nat):Int):=by decide +kernel
 exact key ⟨x,hx⟩ ⟨k,hk⟩
end Go.Proofs.YtmhapcbjjpadnaaGreat
set_option maxRecDepth 40000
namespace Go.Proofs.YtmhapcbjjpadnaaGreat
open Go Go.Sk Go.RowKit
def jA(c:Dc)(f off n:Int):Bool:=bif decide (0≤f∧f< (c.fl.length:Int)) then oI off n else false
theorem eC {c:Dc} {f off n:Int} (h:jA c f off n=true):∃a b k:Nat,f=a∧off=b∧n=k∧a<c.fl.length∧b+k≤128:=by
 unfold jA at h
 by_cases e:0≤f∧f< (c.fl.length:Int)
 ·rw [decide_eq_true e,cond_true] at h
  obtain⟨b,k,rfl,rfl,h2⟩:=bB7 h
  exact⟨f.toNat,b,k,by omega,rfl,rfl,by omega,h2⟩
 ·rw [decide_eq_false e] at h;cases h
def aLN(c:Dc)(f off n:Nat):Dc×Int:=bif (eI c f off (bY c f off n) (cnt off (bY c f off n))).2.2 then(pY c f off (bY c f off n) (cnt off (bY c f off n)),0) else(c,7)
def uQ(c:Dc)(f off n:Int):Dc×Int:=bif jA c f off n then aLN c f.toNat off.toNat n.toNat else(c,2)
theorem aXL {c:Dc} (h:Ok c) {f off n:Nat} (hf:f<c.fl.length)(hb:off+n≤128):Ok (aLN c f off n).1:=by
 unfold aLN
 have hrd:bY c f off n≤n:=by unfold bY;omega
 cases(eI c f off (bY c f off n) (cnt off (bY c f off n))).2.2 with
 |true=>exact(jU h hf (by omega) _ (Nat.le_refl _)).1
 |false=>exact h
theorem aXM {c:Dc} (h:Ok c)(f off n:Int):Ok (uQ c f off n).1:=by
 unfold uQ
 cases hr:jA c f off n with
 |false=>exact h
 |true=>
  obtain⟨f,off,n,rfl,rfl,rfl,hf,hb⟩:=eC hr
  exact aXL h hf hb
def aM5(c:Dc)(f z:Nat):Dc×Int:=bif (bT c f (z:Int)).2==0 then
    (bif (eI c f z (bY c f z (128-z)) (cnt z (bY c f z (128-z)))).2.2 then((pY (bT c f (z:Int)).1 f z (bY (bT c f (z:Int)).1 f z (128-z)) (cnt z (bY (bT c f (z:Int)).1 f z (128-z)))).sz f z,0) else(c,7))
 else(c,(bT c f (z:Int)).2)
def uU(c:Dc)(f z:Int):Dc×Int:=bif jA c f z 0 then aM5 c f.toNat z.toNat else(c,2)
theorem aYE {c:Dc} (h:Ok c) {f z:Nat} (hf:f<c.fl.length)(hz:z≤128):Ok (aM5 c f z).1:=by
 obtain⟨o1,o2,o3,o4⟩:=pL h (z:Int) hf
 have hrd:bY (bT c f (z:Int)).1 f z (128-z)≤128-z:=by unfold bY;omega
 have hw:=jU o1 (f:=f) (off:=z) (n:=bY (bT c f (z:Int)).1 f z (128-z)) (by rw [o2];exact hf) (by omega) _ (Nat.le_refl _)
 unfold aM5
 cases((bT c f (z:Int)).2==0) with
 |false=>exact h
 |true=>
  rw [cond_true]
  cases(eI c f z (bY c f z (128-z)) (cnt z (bY c f z (128-z)))).2.2 with
  |false=>exact h
  |true=>exact hw.1.sz (by rw [hw.2.1,o2];exact hf) hz
theorem aYF {c:Dc} (h:Ok c)(f z:Int):Ok (uU c f z).1:=by
 unfold uU
 cases hr:jA c f z 0 with
 |false=>exact h
 |true=>
  obtain⟨f,z,n,rfl,rfl,-,hf,hb⟩:=eC hr
  exact aYE h hf (by omega)
end Go.Proofs.YtmhapcbjjpadnaaGreat
