/- Caches. -/
import Derived.Test.YtmhapcbjjpadnaaGreatGXo
import Derived.Test.YtmhapcbjjpadnaaGreatGFo
set_option linter.all false
set_option maxRecDepth 40000
open List renaming filter_eq_nil_iff→zA,filter_sublist→zC,filter_append→zD
namespace Go.Proofs.YtmhapcbjjpadnaaGreat
open Go Go.Sk Go.RowKit
def bAJ(l:List Pt)(e:Pt):List Pt:=l.filter (λx=>decide (dQ x<dQ e))++e::l.filter (λx=>decide (dQ e<dQ x))
theorem aLQ {l:List Pt} {e:Pt} (J:lK l=true)(F:eH e=true):∀i,i<=l.length->
 (mF l e i).1=(l.take i).filter (λx=>decide (dQ x<dQ e))++((bif (mF l e i).2 then [e] else [])++(l.take i).filter (λx=>decide (dQ e<dQ x)))/\((mF l e i).2=false->∀x∈l.take i,dQ x<dQ e)/\((mF l e i).2=true->∃x∈l.take i,dQ e<=dQ x)
 |0,_=>⟨rfl,(λ_ x B=>by simp at B),(λh=>by cases h)⟩
 |i+1,hi=>by
  obtain⟨H,h2,E⟩:=aLQ J F i (by omega);obtain⟨K,M⟩:=(kI l).1 J;have B:=K _ (List.getElem_mem (show i<l.length by omega));have m:∀y∈l.take i,dQ y<dQ l[i]:=λy f=>by obtain⟨j,N,rfl⟩:=List.getElem_of_mem f;rw [List.getElem_take];rw [List.length_take] at N;exact List.pairwise_iff_getElem.1 M j i (by omega) (by omega) (by omega)
  have k1:=uB B F;have k2:=uB F B;have O:l.take (i+1)=l.take i++ [l[i]]:=List.take_succ_eq_append_getElem (by omega);rw [aT5,aLY l i (by omega),O];generalize l[i]=x at *;generalize l.take i=L at *;generalize mF l e i=q at *;obtain⟨o,z⟩:=q;dsimp only at H h2 E⊢;subst H;have D:(∀y∈L,dQ y<dQ e)->L.filter (λx=>decide (dQ e<dQ x))=[]:=λh=>by rw [zA];intro y f;have :=h y f;simp only [decide_eq_true_eq];omega
  rw [zD,zD]
  by_cases a:dQ x<dQ e
  ·have e1:fT x e=true:=k1.2 a
   have C:fT e x=false:=by
    cases h:fT e x with
    |false=>rfl
    |true=>have :=k2.1 h;omega
   have G:z=false:=by
    cases z with
    |false=>rfl
    |true=>obtain⟨y,f,h⟩:=E rfl;have :=m y f;omega
   subst G;rw [e1,C,D (h2 rfl)];refine⟨?_,(λ_ y f=>?_),(λh=>by cases h)⟩
   ·simp [a,show ¬dQ e<dQ x by omega]
   ·rcases List.mem_append.1 f with f |f
    ·exact h2 rfl y f
    ·rw [List.mem_singleton.1 f];exact a
  ·have e1:fT x e=false:=by
    cases h:fT x e with
    |false=>rfl
    |true=>exact absurd (k1.1 h) a
   rw [e1];refine⟨?_,(λh=>by simp at h),(λ_=>⟨x,List.mem_append_right _ (List.mem_singleton.2 rfl),by omega⟩)⟩
   by_cases b:dQ e<dQ x
   ·rw [k2.2 b]
    cases z with
    |false=>rw [D (h2 rfl)];simp [a,b]
    |true=>simp [a,b]
   ·have C:fT e x=false:=by
     cases h:fT e x with
     |false=>rfl
     |true=>exact absurd (k2.1 h) b
    have G:z=false:=by
     cases z with
     |false=>rfl
     |true=>obtain⟨y,f,h⟩:=E rfl;have :=m y f;omega
    subst G;rw [C,D (h2 rfl)];simp [a,b]
theorem bAL {l:List Pt} {e:Pt} (j:lK l=true)(m:eH e=true):bG3 l e=bAJ l e:=by
 obtain⟨f,h2,C⟩:=aLQ j m l.length (Nat.le_refl _);rw [List.take_length] at *;unfold bG3 bAJ;generalize mF l e l.length=q at *;obtain⟨o,B⟩:=q;dsimp only at *;subst f
 cases B with
 |true=>simp
 |false=>
  have :l.filter (λx=>decide (dQ e<dQ x))=[]:=by rw [zA];intro y z;have :=h2 rfl y z;simp only [decide_eq_true_eq];omega
  rw [this];simp
theorem bAK {l:List Pt} {e:Pt} (C:lK l=true)(D:eH e=true):lK (bAJ l e)=true:=by
 obtain⟨m,z⟩:=(kI l).1 C;refine(kI _).2 ⟨λx f=>?_,?_⟩
 ·unfold bAJ at f;rw [List.mem_append,List.mem_cons] at f;rcases f with f |rfl |f
  ·exact m x (List.mem_filter.1 f).1
  ·exact D
  ·exact m x (List.mem_filter.1 f).1
 ·refine List.pairwise_append.2 ⟨z.sublist zC,List.pairwise_cons.2 ⟨λx f=>by simpa using(List.mem_filter.1 f).2,z.sublist zC⟩,λx f y j=>?_⟩;have B:dQ x<dQ e:=by simpa using(List.mem_filter.1 f).2
  rcases List.mem_cons.1 j with rfl |j
  ·exact B
  ·have h2:dQ e<dQ y:=by simpa using(List.mem_filter.1 j).2
   omega
def Dc.pts(c:Dc)(l:List Pt):Dc:=⟨c.fl,c.fr,c.zo,c.gr,c.ls,c.ck,l⟩
theorem Ok.pts {c:Dc} (h:Ok c) {l:List Pt} (e:lK l=true):Ok (c.pts l):= h.same rfl (λ_ _=>rfl) h.file rfl (λ_=>rfl) (λm v f j=>by have :=h.use m v f j;exact⟨this.pg,this.holds,this.rd,this.wr⟩) rfl rfl rfl h.ls (λ_ _ z=>z) rfl e
def aON(u:Us)(w:Bool):Us:=bif w then tO u (aGS u.p 3) else u
def bH1(pr pg:Int)(m:Nat)(w:Bool):Pt:=⟨pr,pg,((m+1:Nat):Int),w,true⟩
def bAG(c:Dc)(pr pg:Int)(f at_:Nat)(w:Bool):Dc×Int:=
 bif decide ((c.fl.getD f bC).size<=at_*16) then(c,12) else
 match iR c f at_ with
 |none=>(c,4)
 |some (m,u)=>bif (decide (u.p.v≠3)||(w&&decide (u.wr≠0))) then(c,7) else(((c.put m (aON u w)).acc m u.ten).pts (bG3 c.pt (bH1 pr pg m w)),0)
def inE(c:Dc)(pr pg f at_:Int):Bool:=decide ((0<=f/\f< (c.fl.length:Int))/\(0<=pr/\pr<8)/\(0<=pg/\pg<64)/\0<=at_/\at_<8)
def aVP(c:Dc)(pr pg f at_:Int)(w:Bool):Dc×Int:=bif inE c pr pg f at_ then bAG c pr pg f.toNat at_.toNat w else(c,2)
theorem bI9 {c:Dc} (h:Ok c) {f e:Int} (j:0<=f/\f<8)(h2:0<=e/\e<64) {m:Nat} (hm:m<c.fr.length)(w:Bool):eH (bH1 f e m w)=true:=by have :=h.nr;unfold eH bH1;dsimp only;rw [zdt j.1,zdt j.2,zdt h2.1,zdt h2.2,zdt (show(1:Int)<=((m+1:Nat):Int) by omega),zdt (show((m+1:Nat):Int)<=64 by omega)];rfl
theorem bAM {u:Us} (h:gJ u.p)(w:Bool):qY (aON u w)=qY u/\gJ (aON u w).p/\(aON u w).holds=u.holds/\(aON u w).rd=u.rd/\(aON u w).wr=u.wr/\(aON u w).ten=u.ten:=by
 cases w with
 |false=>exact⟨rfl,h,rfl,rfl,rfl,rfl⟩
 |true=>exact⟨rfl,aAU h (by decide),rfl,rfl,rfl,rfl⟩
theorem bAH {c:Dc} (h:Ok c) {B z:Int} {f e:Nat} {w:Bool} (J:f<c.fl.length)(H:0<=B/\B<8)(h2:0<=z/\z<64):Ok (bAG c B z f e w).1:=by
 unfold bAG
 cases decide ((c.fl.getD f bC).size<=e*16) with
 |true=>exact h
 |false=>
  rw [zcf];split
  ·exact h
  ·rename_i m u K;obtain⟨q1,q2,N,O,Q⟩:=fM h J K
   cases(decide (u.p.v≠3)||(w&&decide (u.wr≠0))) with
   |true=>exact h
   |false=> have j:=h.use m u q1 q2;obtain⟨e1,D,E,F,G,M⟩:=bAM j.pg w;have C:=bI9 h H h2 q1 w;exact((h.put q1 q2 e1 D (by rw [E];exact j.holds) (by rw [F];exact j.rd) (by rw [G];exact j.wr)).acc m u.ten).pts (by rw [bAL h.pt C];exact bAK h.pt C)
theorem bAI {c:Dc} (h:Ok c)(z m f j:Int)(w:Bool):Ok (aVP c z m f j w).1:=by
 unfold aVP inE
 by_cases e:(0<=f/\f< (c.fl.length:Int))/\(0<=z/\z<8)/\(0<=m/\m<64)/\0<=j/\j<8
 ·rw [zdt e];exact bAH h (by omega) e.2.1 e.2.2.1
 ·rw [zdf e];exact h
end Go.Proofs.YtmhapcbjjpadnaaGreat
