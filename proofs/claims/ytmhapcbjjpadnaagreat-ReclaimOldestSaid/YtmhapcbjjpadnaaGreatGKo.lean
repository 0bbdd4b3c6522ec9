/- Caches. -/
import Derived.Test.YtmhapcbjjpadnaaGreatGYo
import Derived.Test.YtmhapcbjjpadnaaGreatXS5o
import Derived.Test.YtmhapcbjjpadnaaGreatK8o
import Derived.Test.YtmhapcbjjpadnaaGreatG8o
set_option linter.all false
set_option maxRecDepth 40000
open List renaming replicate→zA,length_replicate→zC,getD_eq_getElem?_getD→zD,getElem?_replicate→zE
namespace Go.Proofs.YtmhapcbjjpadnaaGreat
open Go Go.Sk Go.RowKit
theorem bDS:bK eE/\Sup eE:=by
 refine⟨?_,λ_ _=>rfl⟩;constructor
 ·intro i;show 0<8;omega
 ·intro i h;rfl
def c0(z:List Zn)(g:List Gr):Dc:=⟨[⟨0,0,eE,0,0,0,0⟩,⟨0,1,eE,0,0,0,0⟩,⟨1,2,eE,0,0,0,0⟩],zA (szF z).toNat none,z,g,zA g.length l0,zA g.length 0,[]⟩
theorem uN.in_:∀ {l:List Zn} {f:Int},uN f l->∀z∈l,∀x∈z.free,f<=x/\x<f+lE oP l
 |z::r,f,h,w,hw,x,hx=>by
  have e:lE oP (z::r)=z.size+lE oP r:=rfl;have hz:=h.1.size;have hr:0<=lE oP r:=sumZ_pos h.2;rcases List.mem_cons.1 hw with rfl |hw
  ·have :=h.1.free.inn x hx;rw [e];omega
  ·have :=uN.in_ h.2 w hw x hx;rw [e];omega
where
 sumZ_pos:∀ {l:List Zn} {f:Int},uN f l->0<=lE oP l
 | [],_,_=>Int.le_refl 0
 |z::r,f,h=>by have e:lE oP (z::r)=z.size+lE oP r:=rfl;have :=h.1.size;have :=sumZ_pos h.2;rw [e];omega
theorem bDM {z:List Zn} {g:List Gr} (F:aUX z)(hg:nR g=true):Ok (c0 z g):=by
 have D:=lI hg;obtain⟨N,O⟩:=F.num;have B:∀n,(c0 z g).fr.getD n none=none:=λn=>by show(zA _ none).getD n none=none;rw [zD,zE];split <;> rfl
 have j:∀f,f<3->(c0 z g).fl.getD f bC=⟨(c0 z g).fl.getD f bC |>.dev,(c0 z g).fl.getD f bC |>.slot,eE,0,0,0,0⟩:=λf C=>by
  have :f=0\/f=1\/f=2:=by omega
  rcases this with rfl |rfl |rfl <;> rfl
 have m:∀t,(c0 z g).ls.getD t l0=l0:=λt=>by show(zA _ l0).getD t l0=l0;rw [zD,zE];split <;> rfl
 refine⟨Nat.le_refl 3,by show(zA _ none).length<=64;rw [zC];omega,D.2,by show(zA _ l0).length=g.length;rw [zC],by show(zA _ (0:Int)).length=g.length;rw [zC],λf C=>?_,λn u M G=>?_,λf p C E=>?_,F.chk,λw K x e=>?_,hg,λt J=>?_,λt x J e=>?_,λt=>?_,rfl⟩
 ·rw [j f C];exact⟨bDS.1,bDS.2,λp=>by show(-1000001:Int)<=0;omega,Nat.zero_le _,by show 0<256;omega,by show(0:Int)<=0/\(0:Int)<=1000000;omega,Iff.rfl⟩
 ·rw [B] at G;cases G
 ·rw [j f C] at E;have E:(0:Int)<0:=E;omega
 ·have H:=((eT z).1 F.chk).1;have :=H.in_ w K x e;refine⟨(x-1).toNat,?_,by omega,B _⟩;show _< (zA _ none).length;rw [zC];unfold szF;omega
 ·rw [m];decide
 ·rw [m] at e;rcases e with e |e <;> cases e
 ·show 0<=(zA g.length (0:Int)).getD t 0/\(zA g.length (0:Int)).getD t 0<=1000000;have :(zA g.length (0:Int)).getD t 0=0:=by rw [zD,zE];split <;> rfl
  rw [this];omega
end Go.Proofs.YtmhapcbjjpadnaaGreat
