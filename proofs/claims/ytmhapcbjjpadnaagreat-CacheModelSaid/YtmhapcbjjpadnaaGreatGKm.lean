/- Caches. -/
import Derived.Test.YtmhapcbjjpadnaaGreatXS5m
import Derived.Test.YtmhapcbjjpadnaaGreatK8m
import Derived.Test.YtmhapcbjjpadnaaGreatG8m
set_option linter.unusedSimpArgs false
set_option linter.unusedVariables false
open List renaming replicate→zA,length_replicate→zC,getD_eq_getElem?_getD→zD,getElem?_replicate→zE
set_option linter.constructorNameAsVariable false
set_option maxRecDepth 40000
namespace Go.Proofs.YtmhapcbjjpadnaaGreat
open Go Go.Sk Go.RowKit
inductive Stp:Dc→Dc→Prop
 |refl (c:Dc):Stp c c
 |trans {a b c:Dc} (h:Stp a b) (k:Stp b c):Stp a c
 |ins (c:Dc) (f p t pf:Int) (ur:Bool):Stp c (jB c f p t pf ur).1
 |rdy (c:Dc) (f:Nat) (ps:List Int) (k:Nat):Stp c (bGY c f ps k)
 |wrt (c:Dc) (f off:Int) (s:ByteArray):Stp c (vB c f off s).1
 |bg (c:Dc) (n:Int):Stp c (bgG c n).1
 |en (c:Dc) (n e:Int):Stp c (enG c n e).1
 |rb (c:Dc) (n k:Int):Stp c (rbG c n k).1
 |re (c:Dc) (n:Int) (d:ByteArray) (ok:Bool):Stp c (reG c n d ok).1
 |ev (c:Dc) (n:Int):Stp c (evG c n).1
 |hol (c:Dc) (n k:Int):Stp c (bIP c n k).1
 |trn (c:Dc) (f z:Int):Stp c (uU c f z).1
 |pun (c:Dc) (f off n:Int):Stp c (uQ c f off n).1
 |ent (c:Dc) (pr pg f a:Int) (w:Bool):Stp c (bIK c pr pg f a w).1
end Go.Proofs.YtmhapcbjjpadnaaGreat
set_option maxRecDepth 40000
namespace Go.Proofs.YtmhapcbjjpadnaaGreat
open Go Go.Sk Go.RowKit
theorem bJD(L:List Int)(J:Nat):aQ Tryz.prog 74 [] [.rp 2 [.lst 1 false (aJ L),.int .i64 (J:Int)] 0] (.bool (decide ((L.length:Int)≤(J:Int)))) []:=by
 have hl:(aJ L).length=L.length:=aB L
 refine bM (ob0:= []) [] Tryz.func74 rfl rfl rfl rfl ?_
 exact eR
def eE:cI:=fun _=>(0,0)
theorem aZ0:bK eE∧tJ eE:=by
 refine⟨?_,fun _ _=>rfl⟩
 constructor
 ·intro i;show 0<8;omega
 ·intro i h;rfl
def c0(z:List Zn)(g:List Gr):Dc:=⟨[⟨0,0,eE,0,0,0,0⟩,⟨0,1,eE,0,0,0,0⟩,⟨1,2,eE,0,0,0,0⟩],zA (szF z).toNat none,z,g,zA g.length l0,zA g.length 0,[]⟩
theorem rZ.in_:∀ {l:List Zn} {f:Int},rZ f l→∀z∈l,∀x∈z.free,f≤x∧x<f+jO gR l
 |z::r,f,h,w,hw,x,hx=>by
  have e:jO gR (z::r)=z.size+jO gR r:=rfl
  have hz:=h.1.size
  have hr:0≤jO gR r:=sumZ_pos h.2
  rcases List.mem_cons.1 hw with rfl |hw
  ·have :=h.1.free.inn x hx
   rw [e];omega
  ·have :=rZ.in_ h.2 w hw x hx
   rw [e];omega
where
 sumZ_pos:∀ {l:List Zn} {f:Int},rZ f l→0≤jO gR l
 | [],_,_=>Int.le_refl 0
 |z::r,f,h=>by
  have e:jO gR (z::r)=z.size+jO gR r:=rfl
  have :=h.1.size
  have :=sumZ_pos h.2
  rw [e];omega
theorem bEA {z:List Zn} {g:List Gr} (hz:aVK z)(hg:vC g=true):Ok (c0 z g):=by
 have hgl:=uC hg
 obtain⟨n1,n2⟩:=hz.num
 have hno:∀n,(c0 z g).fr.getD n none=none:=fun n=>by
  show(zA _ none).getD n none=none
  rw [zD,zE]
  split <;> rfl
 have hff:∀f,f<3→(c0 z g).fl.getD f aK=⟨(c0 z g).fl.getD f aK |>.dev,(c0 z g).fl.getD f aK |>.slot,eE,0,0,0,0⟩:=fun f hf=>by
  have :f=0∨f=1∨f=2:=by omega
  rcases this with rfl |rfl |rfl <;> rfl
 have hls:∀t,(c0 z g).ls.getD t l0=l0:=fun t=>by
  show(zA _ l0).getD t l0=l0
  rw [zD,zE]
  split <;> rfl
 refine⟨Nat.le_refl 3,by show(zA _ none).length≤64;rw [zC];omega,hgl.2,by show(zA _ l0).length=g.length;rw [zC],by show(zA _ (0:Int)).length=g.length;rw [zC],fun f hf=>?_,fun n u hn hu=>?_,fun f p hf hp=>?_,hz.chk,fun w hw x hx=>?_,hg,fun t ht=>?_,fun t x ht hx=>?_,fun t=>?_,rfl⟩
 ·rw [hff f hf]
  exact⟨aZ0.1,aZ0.2,fun p=>by show(-1000001:Int)≤0;omega,Nat.zero_le _,by show 0<256;omega,by show(0:Int)≤0∧(0:Int)≤1000000;omega,Iff.rfl⟩
 ·rw [hno] at hu;cases hu
 ·rw [hff f hf] at hp
  have hp:(0:Int)<0:=hp
  omega
 ·have hc:=((dH z).1 hz.chk).1
  have :=hc.in_ w hw x hx
  refine⟨(x-1).toNat,?_,by omega,hno _⟩
  show _< (zA _ none).length
  rw [zC]
  unfold szF
  omega
 ·rw [hls];decide
 ·rw [hls] at hx
  rcases hx with hx |hx <;> cases hx
 ·show 0≤(zA g.length (0:Int)).getD t 0∧(zA g.length (0:Int)).getD t 0≤1000000
  have :(zA g.length (0:Int)).getD t 0=0:=by
   rw [zD,zE]
   split <;> rfl
  rw [this];omega
end Go.Proofs.YtmhapcbjjpadnaaGreat
