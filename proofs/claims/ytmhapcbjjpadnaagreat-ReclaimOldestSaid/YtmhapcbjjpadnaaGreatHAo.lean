/- Caches. -/
import Derived.Test.YtmhapcbjjpadnaaGreatGJo
import Derived.Test.YtmhapcbjjpadnaaGreatK8o
set_option linter.all false
set_option maxRecDepth 40000
open List renaming replicate→zA,length_append→zC
open Nat renaming le_refl→zD
namespace Go.Proofs.YtmhapcbjjpadnaaGreat
open Go Go.Sk Go.RowKit
def yB(l:List Pt)(f:Int):Nat->Bool
 |0=>false
 |i+1=>bif (l.getD i p0).frame==f then(bif yB l f i then true else(l.getD i p0).acc) else yB l f i
theorem bIO {l:List Pt} (h:lK l=true)(f:Int):lK (l.map (kF f))=true:=by
 obtain⟨j,m⟩:=(kI l).1 h;have e:∀p,dQ (kF f p)=dQ p:=λp=>by unfold kF;cases(p.frame==f)<;> rfl
 have z:∀p,eH (kF f p)=eH p:=λp=>by unfold kF;cases(p.frame==f)<;> rfl
 refine(kI _).2 ⟨λx B=>?_,?_⟩
 ·obtain⟨y,C,rfl⟩:=List.mem_map.1 B;rw [z];exact j y C
 ·rw [List.pairwise_map];exact m.imp λh=>by rw [e,e];exact h
def oU(g:Gr):Int:=bif decide (g.chg<=g.pro) then 0 else g.chg-g.pro
def jL(o:Option Us):Bool:=match o with |none=>false |some u=>bif iQ u then(u.p.d:Int)==0 else false
def kV(l:List Gr)(out:List Int)(ps i:Nat):Int:=bif ps==0 then oU (l.getD i g0)-out.getD i 0 else(l.getD i g0).chg-out.getD i 0
def cW(l:List Gr)(out:List Int)(ps:Nat):Nat->Int×Int
 |0=>(-1,0)
 |i+1=>bif decide ((cW l out ps i).2<kV l out ps i) then((i:Int),kV l out ps i) else cW l out ps i
def divN(l:List Gr)(ps:Nat):Nat->List Int->List Int×Nat
 |0,out=>(out,0)
 |n+1,out=>bif decide ((cW l out ps l.length).1<0) then(out,n+1) else divN l ps n (out.set (cW l out ps l.length).1.toNat (out.getD (cW l out ps l.length).1.toNat 0+1))
def aBA(l:List Gr)(n:Nat):Nat->List Int×Nat
 |0=>(zA l.length 0,n)
 |k+1=>divN l k (aBA l n k).2 (aBA l n k).1
structure aSK(l:List Gr)(n0 n:Nat)(out:List Int):Prop where
 len:out.length=l.length
 le:n<=n0
 bd:∀i,0<=out.getD i 0/\out.getD i 0+(n:Int)<=(n0:Int)
theorem tW(l:List Gr)(out:List Int)(ps:Nat):∀i,-1<=(cW l out ps i).1/\(cW l out ps i).1< (i:Int)
 |0=>⟨Int.le_refl _,by show(-1:Int)<0;omega⟩
 |i+1=>by
  have e:=tW l out ps i;rw [cW]
  cases decide ((cW l out ps i).2<kV l out ps i) with
  |true=>rw [zct];dsimp only;omega
  |false=>rw [zcf];omega
theorem aSK.next {l:List Gr} {n0 n:Nat} {out:List Int} (h:aSK l n0 (n+1) out)(j:Nat):aSK l n0 n (out.set j (out.getD j 0+1)):=by
 refine⟨by rw [List.length_set];exact h.len,by have :=h.le;omega,λi=>?_⟩;have m:=h.bd i
 by_cases e:i=j
 ·subst e
  by_cases f:i<out.length
  ·rw [aH _ _ _ _ f];omega
  ·rw [dF _ _ (Nat.le_of_not_lt f)];omega
 ·rw [getD_set_ne _ _ _ e];omega
theorem aQC(l:List Gr)(ps n0:Nat):∀n out,aSK l n0 n out->aSK l n0 (divN l ps n out).2 (divN l ps n out).1
 |0,out,h=>h
 |n+1,out,h=>by
  rw [divN]
  cases decide ((cW l out ps l.length).1<0) with
  |true=>exact h
  |false=>exact aQC l ps n0 n _ (h.next _)
theorem aQD(l:List Gr)(n:Nat):∀k,aSK l n (aBA l n k).2 (aBA l n k).1
 |0=>⟨by simp [aBA],zD _,λi=>by
   have :(zA l.length (0:Int)).getD i 0=0:=by rw [List.getD_eq_getElem?_getD,List.getElem?_replicate];split <;> rfl
   show 0<=(zA l.length (0:Int)).getD i 0/\(zA l.length (0:Int)).getD i 0+(n:Int)<=(n:Int);rw [this];omega⟩
 |k+1=>aQC l k n _ _ (aQD l n k)
theorem aM1 {l:List Gr} (h:nR l=true) {i:Nat} (hi:i<l.length):(0<=(l.getD i g0).chg/\(l.getD i g0).chg<=64)/\0<=(l.getD i g0).pro/\(l.getD i g0).pro<=64:=by have e:=iH (Bool.and_eq_true _ _▸h).1 hi;unfold mM aOA at e;simp only [Bool.or_eq_false_iff,zdn] at e;omega
theorem gT.aA1 {l:Ls} (h:gT l):∀n,gT (aA1 n l)/\((YtmhapcbjjpadnaaGreat.aA1 n l).A++(YtmhapcbjjpadnaaGreat.aA1 n l).I).Perm (l.A++l.I):=λn=>by
 induction n generalizing l with
 |zero=>exact⟨h,List.Perm.refl _⟩
 |succ n j=>
  rw [YtmhapcbjjpadnaaGreat.aA1]
  by_cases f:(l.A.length:Int)<=l.I.length
  ·rw [show decide ((l.A.length:Int)<=l.I.length)=true by simpa using f];exact⟨h,List.Perm.refl _⟩
  ·rw [show decide ((l.A.length:Int)<=l.I.length)=false by simpa using f];have e:0<l.A.length:=by omega
   have :=j (h.bal e);exact⟨this.1,this.2.trans (aHH e)⟩
theorem gT.pL {l:Ls} (h:gT l):gT (pL l)/\((YtmhapcbjjpadnaaGreat.pL l).A++(YtmhapcbjjpadnaaGreat.pL l).I).Perm (l.A++l.I):=by rw [YtmhapcbjjpadnaaGreat.pL,(bX l).2 h];exact h.aA1 _
structure ScK(l:Ls)(s:ScS):Prop where
 perm:s.I.Perm l.I
 asc:s.R.Pairwise (·< ·)
 sub:∀x∈s.R,x∈l.R
theorem ScK.next {l:Ls} (h:gT l) {s:ScS} (k:ScK l s)(held:List Int) {f:Int} (m:f∈l.I):ScK l (eR l.R held s f):=by
 unfold eR
 cases decide (f∈held) with
 |true=>exact k
 |false=>
  cases decide (f∈l.R) with
  |true=> have j:=k.perm.nodup_iff.2 (List.nodup_append.1 h.nodup).2.1;have e:=k.perm.mem_iff.2 m;refine⟨?_,aKP k.asc f,λx z=>k.sub x (dO.1 z).1⟩;show(f::wo s.I f).Perm l.I;rw [show wo s.I f=s.I.erase f from(List.Nodup.erase_eq_filter j f).symm];exact(List.perm_cons_erase e).symm.trans k.perm
  |false=>exact⟨k.perm,k.asc,k.sub⟩
theorem ScK.scan {l:Ls} (h:gT l)(held:List Int)(n:Int):∀(r:List Int) (s:ScS),(∀x∈r,x∈l.I)->ScK l s->ScK l (jD l.R held n r s)
 | [],_,_,k=>k
 |f::r,s,e,k=>by
  rw [jD]
  cases decide ((s.v.length:Int)<n) with
  |true=>exact ScK.scan h held n r _ (λx j=>e x (by simp [j])) (k.next h held (e f (by simp)))
  |false=>exact k
theorem ScK.start {l:Ls} (h:gT l):ScK l ⟨l.I,l.R,[]⟩:=⟨List.Perm.refl _,h.asc,λx e=>e⟩
theorem gT.scan {l:Ls} (h:gT l)(n:Int)(held:List Int):gT (lU l n held).1/\((lU l n held).1.A++(lU l n held).1.I).Perm (l.A++l.I):=by have k:=ScK.scan h held n l.I.reverse _ (λx e=>List.mem_reverse.1 e) (ScK.start h);rw [lU,(bX l).2 h];simp only [Bool.not_true,zcf];generalize jD l.R held n l.I.reverse ⟨l.I,l.R,[]⟩=s at k⊢;have f:(l.A++s.I).Perm (l.A++l.I):=List.Perm.append_left _ k.perm;exact⟨h.of_perm f k.asc λx e=>h.sub x (k.sub x e),f⟩
theorem aGN(e held:List Int)(n:Int):∀(r:List Int) (s:ScS),(jD e held n r s).v.length<=s.v.length+r.length
 | [],s=>zD _
 |f::r,s=>by
  rw [jD]
  cases decide ((s.v.length:Int)<n) with
  |false=>simp
  |true=>
   have :=aGN e held n r (eR e held s f);have h2:(eR e held s f).v.length<=s.v.length+1:=by unfold eR;cases decide (f∈held)<;> cases decide (f∈e)<;> simp
   simp only [zct,List.length_cons];omega
theorem aPI {l:Ls} (h:gT l)(n:Int)(held:List Int):(lU l n held).2.length<=64:=by have e:=h.len;rw [zC] at e;have k:=aGN l.R held n l.I.reverse ⟨l.I,l.R,[]⟩;rw [lU,(bX l).2 h];simp only [Bool.not_true,zcf];simp only [List.length_nil,Nat.zero_add,List.length_reverse] at k;omega
def cP(c:Dc)(t:Nat)(x:Ls):Dc:=⟨c.fl,c.fr,c.zo,c.gr,c.ls.set t x,c.ck,c.pt⟩
theorem Ok.cP {c:Dc} (h:Ok c) {t:Nat} {x:Ls} (D:dM x=true)(z:∀y,vK x y->vK (c.ls.getD t l0) y):Ok (cP c t x):=by
 refine h.same rfl (λ_ _=>rfl) h.file rfl (λ_=>rfl) (λm v B C=>?_) rfl rfl (List.length_set ..) (λs j=>?_) (λs y f=>?_) rfl h.pt
 ·have :=h.use m v B C;exact⟨this.pg,this.holds,this.rd,this.wr⟩
 ·show dM ((c.ls.set t x).getD s l0)=true
  by_cases e:s=t
  ·subst e;rw [aH _ _ _ _ j];exact D
  ·rw [getD_set_ne _ _ _ e];exact h.ls s j
 ·have f:vK ((c.ls.set t x).getD s l0) y:=f
  by_cases e:s=t
  ·subst e
   by_cases j:s<c.ls.length
   ·rw [aH _ _ _ _ j] at f;exact z y f
   ·rw [dF _ _ (Nat.le_of_not_lt j)] at f;exact f
  ·rw [getD_set_ne _ _ _ e] at f;exact f
def eC(c:Dc):Nat->List Int
 |0=> []
 |k+1=>bif jL (c.fr.getD k none) then eC c k else eC c k++ [((k+1:Nat):Int)]
theorem aBJ(c:Dc):∀k,(eC c k).length<=k
 |0=>zD _
 |k+1=>by
  have e:=aBJ c k;rw [eC]
  cases jL (c.fr.getD k none) with
  |true=>rw [zct];omega
  |false=>rw [zcf,zC];simp;omega
def fF(c:Dc)(t:Nat):Ls:=pL (c.ls.getD t l0)
def bP(c:Dc)(t:Nat):Ls×List Int:=lU (fF c t) ((fF c t).I.length:Int) (eC c c.fr.length)
theorem aGO {c:Dc} (h:Ok c) {t:Nat} (B:t<c.ls.length):gT (fF c t)/\(bP c t).2.length<=64/\Ok (cP c t (bP c t).1)/\gT (bP c t).1:=by have m:=(bX _).1 (h.ls t B);obtain⟨e,j⟩:=m.pL;obtain⟨f,D⟩:=e.scan ((fF c t).I.length:Int) (eC c c.fr.length);refine⟨e,aPI e _ _,h.cP ((bX _).2 f) λy C=>?_,f⟩;have z:=D.trans j;have :y∈(lU (fF c t) ((fF c t).I.length:Int) (eC c c.fr.length)).1.A++(lU (fF c t) ((fF c t).I.length:Int) (eC c c.fr.length)).1.I:=List.mem_append.2 C;exact List.mem_append.1 (z.mem_iff.1 this)
structure TrI(c:Dc)(s:Dc×Int)(b:Int):Prop where
 ok:Ok s.1
 sh:Sh c s.1
 lo:0<=s.2
 hi:s.2<=b
end Go.Proofs.YtmhapcbjjpadnaaGreat
