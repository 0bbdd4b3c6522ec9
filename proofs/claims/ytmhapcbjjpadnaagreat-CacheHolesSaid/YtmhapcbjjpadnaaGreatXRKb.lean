/- Caches. -/
import Derived.Test.YtmhapcbjjpadnaaGreatGHb
import Derived.Test.YtmhapcbjjpadnaaGreatGFb
set_option linter.all false
set_option maxHeartbeats 8000000
set_option maxRecDepth 40000
open List renaming filter_eq_nil_iff→zA,filter_sublist→zC,filter_append→zD
namespace Go.Proofs.YtmhapcbjjpadnaaGreat
open Go Go.Sk Go.RowKit
def aY1(l:List Pt)(e:Pt):List Pt:=l.filter (λx=>decide (dS x<dS e))++e::l.filter (λx=>decide (dS e<dS x))
theorem aJZ {l:List Pt} {e:Pt} (hc:kQ l=true)(he:eC e=true):∀i,i<=l.length->
 (iD l e i).1=(l.take i).filter (λx=>decide (dS x<dS e))++((bif (iD l e i).2 then [e] else [])++(l.take i).filter (λx=>decide (dS e<dS x)))/\((iD l e i).2=false->∀x∈l.take i,dS x<dS e)/\((iD l e i).2=true->∃x∈l.take i,dS e<=dS x)
 |0,_=>⟨rfl,(λ_ x hx=>by simp at hx),(λh=>by cases h)⟩
 |i+1,hi=>by
  obtain⟨h1,h2,h3⟩:=aJZ hc he i (by omega)
  obtain⟨c1,c2⟩:=(lT l).1 hc
  have hx:=c1 _ (List.getElem_mem (show i<l.length by omega))
  have hlt:∀y∈l.take i,dS y<dS l[i]:=λy hy=>by
   obtain⟨j,hj,rfl⟩:=List.getElem_of_mem hy
   rw [List.getElem_take]
   rw [List.length_take] at hj
   exact List.pairwise_iff_getElem.1 c2 j i (by omega) (by omega) (by omega)
  have k1:=tD hx he
  have k2:=tD he hx
  have ht:l.take (i+1)=l.take i++ [l[i]]:=List.take_succ_eq_append_getElem (by omega)
  rw [aFX,aK9 l i (by omega),ht]
  generalize l[i]=x at *
  generalize l.take i=L at *
  generalize iD l e i=q at *
  obtain⟨o,pl⟩:=q
  dsimp only at h1 h2 h3⊢
  subst h1
  have fz:(∀y∈L,dS y<dS e)->L.filter (λx=>decide (dS e<dS x))=[]:=λh=>by
   rw [zA]
   intro y hy
   have :=h y hy
   simp only [decide_eq_true_eq];omega
  rw [zD,zD]
  by_cases a:dS x<dS e
  ·have e1:eB x e=true:=k1.2 a
   have e2:eB e x=false:=by
    cases h:eB e x with
    |false=>rfl
    |true=>have :=k2.1 h;omega
   have hp:pl=false:=by
    cases pl with
    |false=>rfl
    |true=>obtain⟨y,hy,h⟩:=h3 rfl;have :=hlt y hy;omega
   subst hp
   rw [e1,e2,fz (h2 rfl)]
   refine⟨?_,(λ_ y hy=>?_),(λh=>by cases h)⟩
   ·simp [a,show ¬dS e<dS x by omega]
   ·rcases List.mem_append.1 hy with hy |hy
    ·exact h2 rfl y hy
    ·rw [List.mem_singleton.1 hy];exact a
  ·have e1:eB x e=false:=by
    cases h:eB x e with
    |false=>rfl
    |true=>exact absurd (k1.1 h) a
   rw [e1]
   refine⟨?_,(λh=>by simp at h),(λ_=>⟨x,List.mem_append_right _ (List.mem_singleton.2 rfl),by omega⟩)⟩
   by_cases b:dS e<dS x
   ·rw [k2.2 b]
    cases pl with
    |false=>rw [fz (h2 rfl)];simp [a,b]
    |true=>simp [a,b]
   ·have e2:eB e x=false:=by
     cases h:eB e x with
     |false=>rfl
     |true=>exact absurd (k2.1 h) b
    have hp:pl=false:=by
     cases pl with
     |false=>rfl
     |true=>obtain⟨y,hy,h⟩:=h3 rfl;have :=hlt y hy;omega
    subst hp
    rw [e2,fz (h2 rfl)]
    simp [a,b]
theorem aY3 {l:List Pt} {e:Pt} (hc:kQ l=true)(he:eC e=true):aMZ l e=aY1 l e:=by
 obtain⟨h1,h2,h3⟩:=aJZ hc he l.length (Nat.le_refl _)
 rw [List.take_length] at *
 unfold aMZ aY1
 generalize iD l e l.length=q at *
 obtain⟨o,pl⟩:=q
 dsimp only at *
 subst h1
 cases pl with
 |true=>simp
 |false=>
  have :l.filter (λx=>decide (dS e<dS x))=[]:=by
   rw [zA]
   intro y hy
   have :=h2 rfl y hy
   simp only [decide_eq_true_eq];omega
  rw [this];simp
theorem aY2 {l:List Pt} {e:Pt} (hc:kQ l=true)(he:eC e=true):kQ (aY1 l e)=true:=by
 obtain⟨c1,c2⟩:=(lT l).1 hc
 refine(lT _).2 ⟨λx hx=>?_,?_⟩
 ·unfold aY1 at hx
  rw [List.mem_append,List.mem_cons] at hx
  rcases hx with hx |rfl |hx
  ·exact c1 x (List.mem_filter.1 hx).1
  ·exact he
  ·exact c1 x (List.mem_filter.1 hx).1
 ·refine List.pairwise_append.2 ⟨c2.sublist zC,List.pairwise_cons.2 ⟨λx hx=>by simpa using(List.mem_filter.1 hx).2,c2.sublist zC⟩,λx hx y hy=>?_⟩
  have h1:dS x<dS e:=by simpa using(List.mem_filter.1 hx).2
  rcases List.mem_cons.1 hy with rfl |hy
  ·exact h1
  ·have h2:dS e<dS y:=by simpa using(List.mem_filter.1 hy).2
   omega
def Dc.pts(c:Dc)(l:List Pt):Dc:=⟨c.fl,c.fr,c.zo,c.gr,c.ls,c.ck,l⟩
theorem Ok.pts {c:Dc} (h:Ok c) {l:List Pt} (hl:kQ l=true):Ok (c.pts l):=
 h.same rfl (λ_ _=>rfl) h.file rfl (λ_=>rfl) (λm v hm hv=>by have :=h.use m v hm hv;exact⟨this.pg,this.holds,this.rd,this.wr⟩) rfl rfl rfl h.ls (λ_ _ hx=>hx) rfl hl
def aDU(u:Us)(w:Bool):Us:=bif w then dQ u (gR u.p 3) else u
def aRM(pr pg:Int)(m:Nat)(w:Bool):Pt:=⟨pr,pg,((m+1:Nat):Int),w,true⟩
def aR4(c:Dc)(pr pg:Int)(f at_:Nat)(w:Bool):Dc×Int:=
 bif decide ((c.fl.getD f aP).size<=at_*16) then(c,12) else
 match eA c f at_ with
 |none=>(c,4)
 |some (m,u)=>bif (decide (u.p.v≠3)||(w&&decide (u.wr≠0))) then(c,7) else(((c.put m (aDU u w)).acc m u.ten).pts (aMZ c.pt (aRM pr pg m w)),0)
def inE(c:Dc)(pr pg f at_:Int):Bool:=decide ((0<=f/\f< (c.fl.length:Int))/\(0<=pr/\pr<8)/\(0<=pg/\pg<64)/\0<=at_/\at_<8)
def aAM(c:Dc)(pr pg f at_:Int)(w:Bool):Dc×Int:=bif inE c pr pg f at_ then aR4 c pr pg f.toNat at_.toNat w else(c,2)
theorem aW3 {c:Dc} (h:Ok c) {pr pg:Int} (h1:0<=pr/\pr<8)(h2:0<=pg/\pg<64) {m:Nat} (hm:m<c.fr.length)(w:Bool):eC (aRM pr pg m w)=true:=by
 have :=h.nr
 unfold eC aRM
 dsimp only
 rw [decide_eq_true h1.1,decide_eq_true h1.2,decide_eq_true h2.1,decide_eq_true h2.2,decide_eq_true (show(1:Int)<=((m+1:Nat):Int) by omega),decide_eq_true (show((m+1:Nat):Int)<=64 by omega)];rfl
theorem aHJ {u:Us} (h:dI u.p)(w:Bool):iF (aDU u w)=iF u/\dI (aDU u w).p/\(aDU u w).holds=u.holds/\(aDU u w).rd=u.rd/\(aDU u w).wr=u.wr/\(aDU u w).ten=u.ten:=by
 cases w with
 |false=>exact⟨rfl,h,rfl,rfl,rfl,rfl⟩
 |true=>exact⟨rfl,mO h (by decide),rfl,rfl,rfl,rfl⟩
theorem aXZ {c:Dc} (h:Ok c) {pr pg:Int} {f at_:Nat} {w:Bool} (hf:f<c.fl.length)(h1:0<=pr/\pr<8)(h2:0<=pg/\pg<64):Ok (aR4 c pr pg f at_ w).1:=by
 unfold aR4
 cases decide ((c.fl.getD f aP).size<=at_*16) with
 |true=>exact h
 |false=>
  rw [cond_false]
  split
  ·exact h
  ·rename_i m u hp
   obtain⟨q1,q2,q3,q4,q5⟩:=bM h hf hp
   cases(decide (u.p.v≠3)||(w&&decide (u.wr≠0))) with
   |true=>exact h
   |false=>
    have hu:=h.use m u q1 q2
    obtain⟨e1,e2,e3,e4,e5,e6⟩:=aHJ hu.pg w
    have hr:=aW3 h h1 h2 q1 w
    exact((h.put q1 q2 e1 e2 (by rw [e3];exact hu.holds) (by rw [e4];exact hu.rd) (by rw [e5];exact hu.wr)).acc m u.ten).pts (by rw [aY3 h.pt hr];exact aY2 h.pt hr)
theorem aY0 {c:Dc} (h:Ok c)(pr pg f at_:Int)(w:Bool):Ok (aAM c pr pg f at_ w).1:=by
 unfold aAM inE
 by_cases e:(0<=f/\f< (c.fl.length:Int))/\(0<=pr/\pr<8)/\(0<=pg/\pg<64)/\0<=at_/\at_<8
 ·rw [decide_eq_true e]
  exact aXZ h (by omega) e.2.1 e.2.2.1
 ·rw [decide_eq_false e];exact h
theorem bMO(c:Dc)(h:Ok c)(pr pg f at_:Int)(w:Bool):aM Tryz.prog 68 [] [.agg c.c,.int .i64 pr,.int .i64 pg,.int .i64 f,.int .i64 at_,.bool w] (.tup [.agg (aAM c pr pg f at_ w).1.c,.int .i64 (aAM c pr pg f at_ w).2]) []:=by
 have k115:=aHR c f
 generalize hq:aAM c pr pg f at_ w=q
 unfold aAM inE at hq
 by_cases a1:0<=f/\f< (c.fl.length:Int)
 ·rw [decide_eq_true a1] at k115
  by_cases a2:(0<=pr/\pr<8)/\(0<=pg/\pg<64)/\0<=at_/\at_<8
  ·rw [decide_eq_true ⟨a1,a2⟩,cond_true] at hq
   obtain⟨f,rfl⟩:∃g:Nat,f=(g:Int):=⟨f.toNat,by omega⟩
   obtain⟨a,rfl⟩:∃g:Nat,at_=(g:Int):=⟨at_.toNat,by omega⟩
   simp only [Int.toNat_natCast] at hq
   have hf:f<c.fl.length:=by omega
   have hgf:=iS hf
   have hs:=(h.file f hf).size
   obtain⟨k0,k1,k2,k3,hfc,-⟩:=Df.cells (h.file f hf).E
   rw [hfc] at hgf
   unfold aR4 at hq
   generalize(c.fl.getD f aP).size=z at *
   by_cases b1:z<=a*16
   ·rw [decide_eq_true b1,cond_true] at hq
    subst hq
    refine aK (ob0:= []) [] Tryz.func68 rfl rfl rfl rfl ?_
    exact Wz
   ·rw [decide_eq_false b1,cond_false] at hq
    cases hp:eA c f a with
    |none=>
     rw [hp] at hq
     have k33:=h.f33n hf hp
     subst hq
     refine aK (ob0:= []) [] Tryz.func68 rfl rfl rfl rfl ?_
     exact Wz
    |some x=>
     obtain⟨m,u⟩:=x
     rw [hp] at hq
     have k33:=h.f33s hf hp
     obtain⟨q1,q2,q3,q4,q5⟩:=bM h hf hp
     have hu:=h.use m u q1 q2
     have hgu:=jB q1 q2
     have hnr:=h.nr
     dsimp only at hq
     by_cases b2:u.p.v=3
     ·by_cases b3:w=true/\u.wr≠0
      ·rw [b3.1,decide_eq_false (show ¬u.p.v≠3 from λe=>e b2),decide_eq_true b3.2] at hq
       obtain⟨rfl,b3⟩:=b3
       subst hq
       refine aK (ob0:= []) [] Tryz.func68 rfl rfl rfl rfl ?_
       exact Wz
      ·have hr:=aW3 h a2.1 a2.2.1 q1 w
       obtain⟨e1,e2,e3,e4,e5,e6⟩:=aHJ hu.pg w
       have k175:=bHT c.pt (aRM pr pg m w) h.pt (by have :=aJP h.pt;omega) hr
       have k176:=aUO u.p hu.pg 3 (by decide)
       have k155:=h.p155 (u':=aDU u w) q1 q2 e1 e2 (by rw [e4];exact hu.rd) (by rw [e5];exact hu.wr)
       have o4:=h.put q1 q2 e1 e2 (by rw [e3];exact hu.holds) (by rw [e4];exact hu.rd) (by rw [e5];exact hu.wr)
       have k127:=o4.a127 (n:=m) (u:=aDU u w) (by rw [tJ];exact q1) (aJ _ _ _ _ q1)
       rw [e6] at k127
       have hq:(((c.put m (aDU u w)).acc m u.ten).pts (aMZ c.pt (aRM pr pg m w)),(0:Int))=q:=by
        rw [<-hq,decide_eq_false (show ¬u.p.v≠3 from λe=>e b2)]
        cases w with
        |false=>rfl
        |true=>rw [decide_eq_false (λe=>b3 ⟨rfl,e⟩)];rfl
       subst hq
       generalize aMZ c.pt (aRM pr pg m w)=T at *
       unfold aDU at *
       cases w with
       |false=>
        dsimp only [cond_false] at *
        generalize(c.put m u).acc m u.ten=d at *
        refine aK (ob0:= []) [] Tryz.func68 rfl rfl rfl rfl ?_
        exact Wz
       |true=>
        dsimp only [cond_true] at *
        have b3:u.wr=0:=by
         by_cases e:u.wr=0
         ·exact e
         ·exact absurd ⟨rfl,e⟩ b3
        generalize(c.put m (dQ u (gR u.p 3))).acc m u.ten=d at *
        refine aK (ob0:= []) [] Tryz.func68 rfl rfl rfl rfl ?_
        exact Wz
     ·rw [decide_eq_true b2] at hq
      subst hq
      refine aK (ob0:= []) [] Tryz.func68 rfl rfl rfl rfl ?_
      exact Wz
  ·rw [decide_eq_false (λe=>a2 e.2),cond_false] at hq
   subst hq
   by_cases b1:pr<0
   ·refine aK (ob0:= []) [] Tryz.func68 rfl rfl rfl rfl ?_
    exact Wz
   by_cases b2:8<=pr
   ·refine aK (ob0:= []) [] Tryz.func68 rfl rfl rfl rfl ?_
    exact Wz
   by_cases b3:pg<0
   ·refine aK (ob0:= []) [] Tryz.func68 rfl rfl rfl rfl ?_
    exact Wz
   by_cases b4:64<=pg
   ·refine aK (ob0:= []) [] Tryz.func68 rfl rfl rfl rfl ?_
    exact Wz
   by_cases b5:at_<0
   ·refine aK (ob0:= []) [] Tryz.func68 rfl rfl rfl rfl ?_
    exact Wz
   have b6:8<=at_:=by omega
   refine aK (ob0:= []) [] Tryz.func68 rfl rfl rfl rfl ?_
   exact Wz
 ·rw [decide_eq_false a1] at k115
  rw [decide_eq_false (λe=>a1 e.1),cond_false] at hq
  subst hq
  refine aK (ob0:= []) [] Tryz.func68 rfl rfl rfl rfl ?_
  exact Wz
end Go.Proofs.YtmhapcbjjpadnaaGreat
