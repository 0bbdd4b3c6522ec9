/- Caches. -/
import Derived.Test.YtmhapcbjjpadnaaGreatGJg
import Derived.Test.YtmhapcbjjpadnaaGreatK8g
set_option linter.all false
set_option maxRecDepth 40000
open List renaming replicate→zA,length_append→zC
open Nat renaming le_refl→zD
namespace Go.Proofs.YtmhapcbjjpadnaaGreat
open Go Go.Sk Go.RowKit
def yB(l:List Pt)(f:Int):Nat->Bool
 |0=>false
 |i+1=>bif (l.getD i p0).frame==f then(bif yB l f i then true else(l.getD i p0).acc) else yB l f i
theorem bKN {l:List Pt} (h:kP l=true)(f:Int):kP (l.map (jC f))=true:=by
 obtain⟨j,m⟩:=(kQ l).1 h;have e:∀p,dQ (jC f p)=dQ p:=λp=>by unfold jC;cases(p.frame==f)<;> rfl
 have z:∀p,eG (jC f p)=eG p:=λp=>by unfold jC;cases(p.frame==f)<;> rfl
 refine(kQ _).2 ⟨λx B=>?_,?_⟩
 ·obtain⟨y,C,rfl⟩:=List.mem_map.1 B;rw [z];exact j y C
 ·rw [List.pairwise_map];exact m.imp λh=>by rw [e,e];exact h
def jR(g:Gr):Int:=bif decide (g.chg<=g.pro) then 0 else g.chg-g.pro
def kK(o:Option Us):Bool:=match o with |none=>false |some u=>bif dW u then(u.p.d:Int)==0 else false
def iT(l:List Gr)(out:List Int)(ps i:Nat):Int:=bif ps==0 then jR (l.getD i g0)-out.getD i 0 else(l.getD i g0).chg-out.getD i 0
def cP(l:List Gr)(out:List Int)(ps:Nat):Nat->Int×Int
 |0=>(-1,0)
 |i+1=>bif decide ((cP l out ps i).2<iT l out ps i) then((i:Int),iT l out ps i) else cP l out ps i
def divN(l:List Gr)(ps:Nat):Nat->List Int->List Int×Nat
 |0,out=>(out,0)
 |n+1,out=>bif decide ((cP l out ps l.length).1<0) then(out,n+1) else divN l ps n (out.set (cP l out ps l.length).1.toNat (out.getD (cP l out ps l.length).1.toNat 0+1))
def aA7(l:List Gr)(n:Nat):Nat->List Int×Nat
 |0=>(zA l.length 0,n)
 |k+1=>divN l k (aA7 l n k).2 (aA7 l n k).1
structure aU3(l:List Gr)(n0 n:Nat)(out:List Int):Prop where
 len:out.length=l.length
 le:n<=n0
 bd:∀i,0<=out.getD i 0/\out.getD i 0+(n:Int)<=(n0:Int)
theorem uQ(l:List Gr)(out:List Int)(ps:Nat):∀i,-1<=(cP l out ps i).1/\(cP l out ps i).1< (i:Int)
 |0=>⟨Int.le_refl _,by show(-1:Int)<0;omega⟩
 |i+1=>by
  have e:=uQ l out ps i;rw [cP]
  cases decide ((cP l out ps i).2<iT l out ps i) with
  |true=>rw [zct];dsimp only;omega
  |false=>rw [zcf];omega
theorem aU3.next {l:List Gr} {n0 n:Nat} {out:List Int} (h:aU3 l n0 (n+1) out)(j:Nat):aU3 l n0 n (out.set j (out.getD j 0+1)):=by
 refine⟨by rw [List.length_set];exact h.len,by have :=h.le;omega,λi=>?_⟩;have m:=h.bd i
 by_cases e:i=j
 ·subst e
  by_cases f:i<out.length
  ·rw [aE _ _ _ _ f];omega
  ·rw [dI _ _ (Nat.le_of_not_lt f)];omega
 ·rw [getD_set_ne _ _ _ e];omega
theorem aRT(l:List Gr)(ps n0:Nat):∀n out,aU3 l n0 n out->aU3 l n0 (divN l ps n out).2 (divN l ps n out).1
 |0,out,h=>h
 |n+1,out,h=>by
  rw [divN]
  cases decide ((cP l out ps l.length).1<0) with
  |true=>exact h
  |false=>exact aRT l ps n0 n _ (h.next _)
theorem aRU(l:List Gr)(n:Nat):∀k,aU3 l n (aA7 l n k).2 (aA7 l n k).1
 |0=>⟨by simp [aA7],zD _,λi=>by
   have :(zA l.length (0:Int)).getD i 0=0:=by rw [List.getD_eq_getElem?_getD,List.getElem?_replicate];split <;> rfl
   show 0<=(zA l.length (0:Int)).getD i 0/\(zA l.length (0:Int)).getD i 0+(n:Int)<=(n:Int);rw [this];omega⟩
 |k+1=>aRT l k n _ _ (aRU l n k)
theorem aG7 {l:List Gr} (h:mV l=true) {i:Nat} (hi:i<l.length):(0<=(l.getD i g0).chg/\(l.getD i g0).chg<=64)/\0<=(l.getD i g0).pro/\(l.getD i g0).pro<=64:=by have e:=iM (Bool.and_eq_true _ _▸h).1 hi;unfold nD aI6 at e;simp only [Bool.or_eq_false_iff,zdn] at e;omega
theorem gZ.aAO {l:Ls} (h:gZ l):∀n,gZ (aAO n l)/\((YtmhapcbjjpadnaaGreat.aAO n l).A++(YtmhapcbjjpadnaaGreat.aAO n l).I).Perm (l.A++l.I):=λn=>by
 induction n generalizing l with
 |zero=>exact⟨h,List.Perm.refl _⟩
 |succ n f=>
  rw [YtmhapcbjjpadnaaGreat.aAO]
  by_cases hc:(l.A.length:Int)<=l.I.length
  ·rw [show decide ((l.A.length:Int)<=l.I.length)=true by simpa using hc];exact⟨h,List.Perm.refl _⟩
  ·rw [show decide ((l.A.length:Int)<=l.I.length)=false by simpa using hc];have e:0<l.A.length:=by omega
   have :=f (h.bal e);exact⟨this.1,this.2.trans (aII e)⟩
theorem gZ.rF {l:Ls} (h:gZ l):gZ (rF l)/\((YtmhapcbjjpadnaaGreat.rF l).A++(YtmhapcbjjpadnaaGreat.rF l).I).Perm (l.A++l.I):=by rw [YtmhapcbjjpadnaaGreat.rF,(bX l).2 h];exact h.aAO _
structure ScK(l:Ls)(s:ScS):Prop where
 perm:s.I.Perm l.I
 asc:s.R.Pairwise (·< ·)
 sub:∀x∈s.R,x∈l.R
theorem ScK.next {l:Ls} (h:gZ l) {s:ScS} (k:ScK l s)(held:List Int) {f:Int} (m:f∈l.I):ScK l (fY l.R held s f):=by
 unfold fY
 cases decide (f∈held) with
 |true=>exact k
 |false=>
  cases decide (f∈l.R) with
  |true=> have j:=k.perm.nodup_iff.2 (List.nodup_append.1 h.nodup).2.1;have e:=k.perm.mem_iff.2 m;refine⟨?_,aM0 k.asc f,λx z=>k.sub x (dA.1 z).1⟩;show(f::wo s.I f).Perm l.I;rw [show wo s.I f=s.I.erase f from(List.Nodup.erase_eq_filter j f).symm];exact(List.perm_cons_erase e).symm.trans k.perm
  |false=>exact⟨k.perm,k.asc,k.sub⟩
theorem ScK.scan {l:Ls} (h:gZ l)(held:List Int)(n:Int):∀(r:List Int) (s:ScS),(∀x∈r,x∈l.I)->ScK l s->ScK l (lE l.R held n r s)
 | [],_,_,k=>k
 |f::r,s,e,k=>by
  rw [lE]
  cases decide ((s.v.length:Int)<n) with
  |true=>exact ScK.scan h held n r _ (λx j=>e x (by simp [j])) (k.next h held (e f (by simp)))
  |false=>exact k
theorem ScK.start {l:Ls} (h:gZ l):ScK l ⟨l.I,l.R,[]⟩:=⟨List.Perm.refl _,h.asc,λx e=>e⟩
theorem gZ.scan {l:Ls} (h:gZ l)(n:Int)(held:List Int):gZ (mO l n held).1/\((mO l n held).1.A++(mO l n held).1.I).Perm (l.A++l.I):=by have k:=ScK.scan h held n l.I.reverse _ (λx e=>List.mem_reverse.1 e) (ScK.start h);rw [mO,(bX l).2 h];simp only [Bool.not_true,zcf];generalize lE l.R held n l.I.reverse ⟨l.I,l.R,[]⟩=s at k⊢;have f:(l.A++s.I).Perm (l.A++l.I):=List.Perm.append_left _ k.perm;exact⟨h.of_perm f k.asc λx e=>h.sub x (k.sub x e),f⟩
theorem aHQ(e held:List Int)(n:Int):∀(r:List Int) (s:ScS),(lE e held n r s).v.length<=s.v.length+r.length
 | [],s=>zD _
 |f::r,s=>by
  rw [lE]
  cases decide ((s.v.length:Int)<n) with
  |false=>simp
  |true=>
   have :=aHQ e held n r (fY e held s f);have h2:(fY e held s f).v.length<=s.v.length+1:=by unfold fY;cases decide (f∈held)<;> cases decide (f∈e)<;> simp
   simp only [zct,List.length_cons];omega
theorem aR1 {l:Ls} (h:gZ l)(n:Int)(held:List Int):(mO l n held).2.length<=64:=by have e:=h.len;rw [zC] at e;have k:=aHQ l.R held n l.I.reverse ⟨l.I,l.R,[]⟩;rw [mO,(bX l).2 h];simp only [Bool.not_true,zcf];simp only [List.length_nil,Nat.zero_add,List.length_reverse] at k;omega
def dX(c:Dc)(t:Nat)(x:Ls):Dc:=⟨c.fl,c.fr,c.zo,c.gr,c.ls.set t x,c.ck,c.pt⟩
theorem Ok.dX {c:Dc} (h:Ok c) {t:Nat} {x:Ls} (D:eB x=true)(z:∀y,rS x y->rS (c.ls.getD t l0) y):Ok (dX c t x):=by
 refine h.same rfl (λ_ _=>rfl) h.file rfl (λ_=>rfl) (λm v B C=>?_) rfl rfl (List.length_set ..) (λs j=>?_) (λs y f=>?_) rfl h.pt
 ·have :=h.use m v B C;exact⟨this.pg,this.holds,this.rd,this.wr⟩
 ·show eB ((c.ls.set t x).getD s l0)=true
  by_cases e:s=t
  ·subst e;rw [aE _ _ _ _ j];exact D
  ·rw [getD_set_ne _ _ _ e];exact h.ls s j
 ·have f:rS ((c.ls.set t x).getD s l0) y:=f
  by_cases e:s=t
  ·subst e
   by_cases j:s<c.ls.length
   ·rw [aE _ _ _ _ j] at f;exact z y f
   ·rw [dI _ _ (Nat.le_of_not_lt j)] at f;exact f
  ·rw [getD_set_ne _ _ _ e] at f;exact f
def eK(c:Dc):Nat->List Int
 |0=> []
 |k+1=>bif kK (c.fr.getD k none) then eK c k else eK c k++ [((k+1:Nat):Int)]
theorem aCF(c:Dc):∀k,(eK c k).length<=k
 |0=>zD _
 |k+1=>by
  have e:=aCF c k;rw [eK]
  cases kK (c.fr.getD k none) with
  |true=>rw [zct];omega
  |false=>rw [zcf,zC];simp;omega
def gB(c:Dc)(t:Nat):Ls:=rF (c.ls.getD t l0)
def cK(c:Dc)(t:Nat):Ls×List Int:=mO (gB c t) ((gB c t).I.length:Int) (eK c c.fr.length)
theorem aHR {c:Dc} (h:Ok c) {t:Nat} (z:t<c.ls.length):gZ (gB c t)/\(cK c t).2.length<=64/\Ok (dX c t (cK c t).1)/\gZ (cK c t).1:=by have hc:=(bX _).1 (h.ls t z);obtain⟨e,j⟩:=hc.rF;obtain⟨f,C⟩:=e.scan ((gB c t).I.length:Int) (eK c c.fr.length);refine⟨e,aR1 e _ _,h.dX ((bX _).2 f) λy B=>?_,f⟩;have m:=C.trans j;have :y∈(mO (gB c t) ((gB c t).I.length:Int) (eK c c.fr.length)).1.A++(mO (gB c t) ((gB c t).I.length:Int) (eK c c.fr.length)).1.I:=List.mem_append.2 B;exact List.mem_append.1 (m.mem_iff.1 this)
structure TrI(c:Dc)(s:Dc×Int)(b:Int):Prop where
 ok:Ok s.1
 sh:Sh c s.1
 lo:0<=s.2
 hi:s.2<=b
end Go.Proofs.YtmhapcbjjpadnaaGreat
