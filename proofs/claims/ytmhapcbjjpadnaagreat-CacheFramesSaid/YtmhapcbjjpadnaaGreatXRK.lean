/- Caches. -/
import Derived.Test.YtmhapcbjjpadnaaGreatGH
import Derived.Test.YtmhapcbjjpadnaaGreatGF
set_option linter.unusedSimpArgs false
set_option linter.unusedVariables false
open List renaming filter_eq_nil_iff→zA,filter_sublist→zC,filter_append→zD
set_option maxRecDepth 40000
namespace Go.Proofs.YtmhapcbjjpadnaaGreat
open Go Go.Sk Go.RowKit
def aW8(l:List Pt)(e:Pt):List Pt:=l.filter (fun x=>decide (dJ x<dJ e))++e::l.filter (fun x=>decide (dJ e<dJ x))
theorem aIX {l:List Pt} {e:Pt} (hc:jV l=true)(he:dR e=true):∀i,i≤l.length→
 (gT l e i).1=(l.take i).filter (fun x=>decide (dJ x<dJ e))++((bif (gT l e i).2 then [e] else [])++(l.take i).filter (fun x=>decide (dJ e<dJ x)))∧((gT l e i).2=false→∀x∈l.take i,dJ x<dJ e)∧((gT l e i).2=true→∃x∈l.take i,dJ e≤dJ x)
 |0,_=>⟨rfl,(fun _ x hx=>by simp at hx),(fun h=>by cases h)⟩
 |i+1,hi=>by
  obtain⟨h1,h2,h3⟩:=aIX hc he i (by omega)
  obtain⟨c1,c2⟩:=(kT l).1 hc
  have hx:=c1 _ (List.getElem_mem (show i<l.length by omega))
  have hlt:∀y∈l.take i,dJ y<dJ l[i]:=fun y hy=>by
   obtain⟨j,hj,rfl⟩:=List.getElem_of_mem hy
   rw [List.getElem_take]
   rw [List.length_take] at hj
   exact List.pairwise_iff_getElem.1 c2 j i (by omega) (by omega) (by omega)
  have k1:=rX hx he
  have k2:=rX he hx
  have ht:l.take (i+1)=l.take i++ [l[i]]:=List.take_succ_eq_append_getElem (by omega)
  rw [aEZ,aJ6 l i (by omega),ht]
  generalize l[i]=x at *
  generalize l.take i=L at *
  generalize gT l e i=q at *
  obtain⟨o,pl⟩:=q
  dsimp only at h1 h2 h3⊢
  subst h1
  have fz:(∀y∈L,dJ y<dJ e)→L.filter (fun x=>decide (dJ e<dJ x))=[]:=fun h=>by
   rw [zA]
   intro y hy
   have :=h y hy
   simp only [decide_eq_true_eq];omega
  rw [zD,zD]
  by_cases a:dJ x<dJ e
  ·have e1:dQ x e=true:=k1.2 a
   have e2:dQ e x=false:=by
    cases h:dQ e x with
    |false=>rfl
    |true=>have :=k2.1 h;omega
   have hp:pl=false:=by
    cases pl with
    |false=>rfl
    |true=>obtain⟨y,hy,h⟩:=h3 rfl;have :=hlt y hy;omega
   subst hp
   rw [e1,e2,fz (h2 rfl)]
   refine⟨?_,(fun _ y hy=>?_),(fun h=>by cases h)⟩
   ·simp [a,show ¬dJ e<dJ x by omega]
   ·rcases List.mem_append.1 hy with hy |hy
    ·exact h2 rfl y hy
    ·rw [List.mem_singleton.1 hy];exact a
  ·have e1:dQ x e=false:=by
    cases h:dQ x e with
    |false=>rfl
    |true=>exact absurd (k1.1 h) a
   rw [e1]
   refine⟨?_,(fun h=>by simp at h),(fun _=>⟨x,List.mem_append_right _ (List.mem_singleton.2 rfl),by omega⟩)⟩
   by_cases b:dJ e<dJ x
   ·rw [k2.2 b]
    cases pl with
    |false=>rw [fz (h2 rfl)];simp [a,b]
    |true=>simp [a,b]
   ·have e2:dQ e x=false:=by
     cases h:dQ e x with
     |false=>rfl
     |true=>exact absurd (k2.1 h) b
    have hp:pl=false:=by
     cases pl with
     |false=>rfl
     |true=>obtain⟨y,hy,h⟩:=h3 rfl;have :=hlt y hy;omega
    subst hp
    rw [e2,fz (h2 rfl)]
    simp [a,b]
theorem aWA {l:List Pt} {e:Pt} (hc:jV l=true)(he:dR e=true):aLQ l e=aW8 l e:=by
 obtain⟨h1,h2,h3⟩:=aIX hc he l.length (Nat.le_refl _)
 rw [List.take_length] at *
 unfold aLQ aW8
 generalize gT l e l.length=q at *
 obtain⟨o,pl⟩:=q
 dsimp only at *
 subst h1
 cases pl with
 |true=>simp
 |false=>
  have :l.filter (fun x=>decide (dJ e<dJ x))=[]:=by
   rw [zA]
   intro y hy
   have :=h2 rfl y hy
   simp only [decide_eq_true_eq];omega
  rw [this];simp
theorem aW9 {l:List Pt} {e:Pt} (hc:jV l=true)(he:dR e=true):jV (aW8 l e)=true:=by
 obtain⟨c1,c2⟩:=(kT l).1 hc
 refine(kT _).2 ⟨fun x hx=>?_,?_⟩
 ·unfold aW8 at hx
  rw [List.mem_append,List.mem_cons] at hx
  rcases hx with hx |rfl |hx
  ·exact c1 x (List.mem_filter.1 hx).1
  ·exact he
  ·exact c1 x (List.mem_filter.1 hx).1
 ·refine List.pairwise_append.2 ⟨c2.sublist zC,List.pairwise_cons.2 ⟨fun x hx=>by simpa using(List.mem_filter.1 hx).2,c2.sublist zC⟩,fun x hx y hy=>?_⟩
  have h1:dJ x<dJ e:=by simpa using(List.mem_filter.1 hx).2
  rcases List.mem_cons.1 hy with rfl |hy
  ·exact h1
  ·have h2:dJ e<dJ y:=by simpa using(List.mem_filter.1 hy).2
   omega
def Dc.pts(c:Dc)(l:List Pt):Dc:=⟨c.fl,c.fr,c.zo,c.gr,c.ls,c.ck,l⟩
theorem Ok.pts {c:Dc} (h:Ok c) {l:List Pt} (hl:jV l=true):Ok (c.pts l):=
 h.same rfl (fun _ _=>rfl) h.file rfl (fun _=>rfl) (fun m v hm hv=>by have :=h.use m v hm hv;exact⟨this.pg,this.holds,this.rd,this.wr⟩) rfl rfl rfl h.ls (fun _ _ hx=>hx) rfl hl
def aCU(u:Us)(w:Bool):Us:=bif w then pZ u (aBC u.p 3) else u
def aQ0(pr pg:Int)(m:Nat)(w:Bool):Pt:=⟨pr,pg,((m+1:Nat):Int),w,true⟩
def aPJ(c:Dc)(pr pg:Int)(f at_:Nat)(w:Bool):Dc×Int:=
 bif decide ((c.fl.getD f aR).size≤at_*16) then(c,12) else
 match gV c f at_ with
 |none=>(c,4)
 |some (m,u)=>bif (decide (u.p.v≠3)||(w&&decide (u.wr≠0))) then(c,7) else(((c.put m (aCU u w)).acc m u.ten).pts (aLQ c.pt (aQ0 pr pg m w)),0)
def inE(c:Dc)(pr pg f at_:Int):Bool:=decide ((0≤f∧f< (c.fl.length:Int))∧(0≤pr∧pr<8)∧(0≤pg∧pg<64)∧0≤at_∧at_<8)
def vR(c:Dc)(pr pg f at_:Int)(w:Bool):Dc×Int:=bif inE c pr pg f at_ then aPJ c pr pg f.toNat at_.toNat w else(c,2)
theorem aUJ {c:Dc} (h:Ok c) {pr pg:Int} (h1:0≤pr∧pr<8)(h2:0≤pg∧pg<64) {m:Nat} (hm:m<c.fr.length)(w:Bool):dR (aQ0 pr pg m w)=true:=by
 have :=h.nr
 unfold dR aQ0
 dsimp only
 rw [decide_eq_true h1.1,decide_eq_true h1.2,decide_eq_true h2.1,decide_eq_true h2.2,decide_eq_true (show(1:Int)≤((m+1:Nat):Int) by omega),decide_eq_true (show((m+1:Nat):Int)≤64 by omega)];rfl
theorem aGL {u:Us} (h:eA u.p)(w:Bool):iD (aCU u w)=iD u∧eA (aCU u w).p∧(aCU u w).holds=u.holds∧(aCU u w).rd=u.rd∧(aCU u w).wr=u.wr∧(aCU u w).ten=u.ten:=by
 cases w with
 |false=>exact⟨rfl,h,rfl,rfl,rfl,rfl⟩
 |true=>exact⟨rfl,vA h (by decide),rfl,rfl,rfl,rfl⟩
theorem aW6 {c:Dc} (h:Ok c) {pr pg:Int} {f at_:Nat} {w:Bool} (hf:f<c.fl.length)(h1:0≤pr∧pr<8)(h2:0≤pg∧pg<64):Ok (aPJ c pr pg f at_ w).1:=by
 unfold aPJ
 cases decide ((c.fl.getD f aR).size≤at_*16) with
 |true=>exact h
 |false=>
  rw [cond_false]
  split
  ·exact h
  ·rename_i m u hp
   obtain⟨q1,q2,q3,q4,q5⟩:=cL h hf hp
   cases(decide (u.p.v≠3)||(w&&decide (u.wr≠0))) with
   |true=>exact h
   |false=>
    have hu:=h.use m u q1 q2
    obtain⟨e1,e2,e3,e4,e5,e6⟩:=aGL hu.pg w
    have hr:=aUJ h h1 h2 q1 w
    exact((h.put q1 q2 e1 e2 (by rw [e3];exact hu.holds) (by rw [e4];exact hu.rd) (by rw [e5];exact hu.wr)).acc m u.ten).pts (by rw [aWA h.pt hr];exact aW9 h.pt hr)
theorem aW7 {c:Dc} (h:Ok c)(pr pg f at_:Int)(w:Bool):Ok (vR c pr pg f at_ w).1:=by
 unfold vR inE
 by_cases e:(0≤f∧f< (c.fl.length:Int))∧(0≤pr∧pr<8)∧(0≤pg∧pg<64)∧0≤at_∧at_<8
 ·rw [decide_eq_true e]
  exact aW6 h (by omega) e.2.1 e.2.2.1
 ·rw [decide_eq_false e];exact h
set_option maxHeartbeats 8000000 in
theorem bJN(c:Dc)(h:Ok c)(pr pg f at_:Int)(w:Bool):aN Tryz.prog 68 [] [.agg c.c,.int .i64 pr,.int .i64 pg,.int .i64 f,.int .i64 at_,.bool w] (.tup [.agg (vR c pr pg f at_ w).1.c,.int .i64 (vR c pr pg f at_ w).2]) []:=by
 have k115:=aSA c f
 generalize hq:vR c pr pg f at_ w=q
 unfold vR inE at hq
 by_cases a1:0≤f∧f< (c.fl.length:Int)
 ·rw [decide_eq_true a1] at k115
  by_cases a2:(0≤pr∧pr<8)∧(0≤pg∧pg<64)∧0≤at_∧at_<8
  ·rw [decide_eq_true ⟨a1,a2⟩,cond_true] at hq
   obtain⟨f,rfl⟩:∃g:Nat,f=(g:Int):=⟨f.toNat,by omega⟩
   obtain⟨a,rfl⟩:∃g:Nat,at_=(g:Int):=⟨at_.toNat,by omega⟩
   simp only [Int.toNat_natCast] at hq
   have hf:f<c.fl.length:=by omega
   have hgf:=qB hf
   have hs:=(h.file f hf).size
   obtain⟨k0,k1,k2,k3,hfc,-⟩:=Df.cells (h.file f hf).E
   rw [hfc] at hgf
   unfold aPJ at hq
   generalize(c.fl.getD f aR).size=z at *
   by_cases b1:z≤a*16
   ·rw [decide_eq_true b1,cond_true] at hq
    subst hq
    refine aJ (ob0:= []) [] Tryz.func68 rfl rfl rfl rfl ?_
    exact Wz
   ·rw [decide_eq_false b1,cond_false] at hq
    cases hp:gV c f a with
    |none=>
     rw [hp] at hq
     have k33:=h.f33n hf hp
     subst hq
     refine aJ (ob0:= []) [] Tryz.func68 rfl rfl rfl rfl ?_
     exact Wz
    |some x=>
     obtain⟨m,u⟩:=x
     rw [hp] at hq
     have k33:=h.f33s hf hp
     obtain⟨q1,q2,q3,q4,q5⟩:=cL h hf hp
     have hu:=h.use m u q1 q2
     have hgu:=nB q1 q2
     have hnr:=h.nr
     dsimp only at hq
     by_cases b2:u.p.v=3
     ·by_cases b3:w=true∧u.wr≠0
      ·rw [b3.1,decide_eq_false (show ¬u.p.v≠3 from fun e=>e b2),decide_eq_true b3.2] at hq
       obtain⟨rfl,b3⟩:=b3
       subst hq
       refine aJ (ob0:= []) [] Tryz.func68 rfl rfl rfl rfl ?_
       exact Wz
      ·have hr:=aUJ h a2.1 a2.2.1 q1 w
       obtain⟨e1,e2,e3,e4,e5,e6⟩:=aGL hu.pg w
       have k175:=bFJ c.pt (aQ0 pr pg m w) h.pt (by have :=aIN h.pt;omega) hr
       have k176:=aT7 u.p hu.pg 3 (by decide)
       have k155:=h.p155 (u':=aCU u w) q1 q2 e1 e2 (by rw [e4];exact hu.rd) (by rw [e5];exact hu.wr)
       have o4:=h.put q1 q2 e1 e2 (by rw [e3];exact hu.holds) (by rw [e4];exact hu.rd) (by rw [e5];exact hu.wr)
       have k127:=o4.a127 (n:=m) (u:=aCU u w) (by rw [aHH];exact q1) (aL _ _ _ _ q1)
       rw [e6] at k127
       have hq:(((c.put m (aCU u w)).acc m u.ten).pts (aLQ c.pt (aQ0 pr pg m w)),(0:Int))=q:=by
        rw [←hq,decide_eq_false (show ¬u.p.v≠3 from fun e=>e b2)]
        cases w with
        |false=>rfl
        |true=>rw [decide_eq_false (fun e=>b3 ⟨rfl,e⟩)];rfl
       subst hq
       generalize aLQ c.pt (aQ0 pr pg m w)=T at *
       unfold aCU at *
       cases w with
       |false=>
        dsimp only [cond_false] at *
        generalize(c.put m u).acc m u.ten=d at *
        refine aJ (ob0:= []) [] Tryz.func68 rfl rfl rfl rfl ?_
        exact Wz
       |true=>
        dsimp only [cond_true] at *
        have b3:u.wr=0:=by
         by_cases e:u.wr=0
         ·exact e
         ·exact absurd ⟨rfl,e⟩ b3
        generalize(c.put m (pZ u (aBC u.p 3))).acc m u.ten=d at *
        refine aJ (ob0:= []) [] Tryz.func68 rfl rfl rfl rfl ?_
        exact Wz
     ·rw [decide_eq_true b2] at hq
      subst hq
      refine aJ (ob0:= []) [] Tryz.func68 rfl rfl rfl rfl ?_
      exact Wz
  ·rw [decide_eq_false (fun e=>a2 e.2),cond_false] at hq
   subst hq
   by_cases b1:pr<0
   ·refine aJ (ob0:= []) [] Tryz.func68 rfl rfl rfl rfl ?_
    exact Wz
   by_cases b2:8≤pr
   ·refine aJ (ob0:= []) [] Tryz.func68 rfl rfl rfl rfl ?_
    exact Wz
   by_cases b3:pg<0
   ·refine aJ (ob0:= []) [] Tryz.func68 rfl rfl rfl rfl ?_
    exact Wz
   by_cases b4:64≤pg
   ·refine aJ (ob0:= []) [] Tryz.func68 rfl rfl rfl rfl ?_
    exact Wz
   by_cases b5:at_<0
   ·refine aJ (ob0:= []) [] Tryz.func68 rfl rfl rfl rfl ?_
    exact Wz
   have b6:8≤at_:=by omega
   refine aJ (ob0:= []) [] Tryz.func68 rfl rfl rfl rfl ?_
   exact Wz
 ·rw [decide_eq_false a1] at k115
  rw [decide_eq_false (fun e=>a1 e.1),cond_false] at hq
  subst hq
  refine aJ (ob0:= []) [] Tryz.func68 rfl rfl rfl rfl ?_
  exact Wz
end Go.Proofs.YtmhapcbjjpadnaaGreat
