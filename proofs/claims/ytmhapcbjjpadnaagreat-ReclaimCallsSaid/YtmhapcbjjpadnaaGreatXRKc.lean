/- Caches. -/
import Derived.Test.YtmhapcbjjpadnaaGreatGXc
import Derived.Test.YtmhapcbjjpadnaaGreatGFc
set_option linter.all false
set_option maxHeartbeats 8000000
set_option maxRecDepth 40000
open List renaming filter_eq_nil_iff→zA,filter_sublist→zC,filter_append→zD
namespace Go.Proofs.YtmhapcbjjpadnaaGreat
open Go Go.Sk Go.RowKit
def aYB(l:List Pt)(e:Pt):List Pt:=l.filter (λx=>decide (dZ x<dZ e))++e::l.filter (λx=>decide (dZ e<dZ x))
theorem aNV {l:List Pt} {e:Pt} (J:kU l=true)(F:eN e=true):∀i,i<=l.length->
 (jH l e i).1=(l.take i).filter (λx=>decide (dZ x<dZ e))++((bif (jH l e i).2 then [e] else [])++(l.take i).filter (λx=>decide (dZ e<dZ x)))/\((jH l e i).2=false->∀x∈l.take i,dZ x<dZ e)/\((jH l e i).2=true->∃x∈l.take i,dZ e<=dZ x)
 |0,_=>⟨rfl,(λ_ x B=>by simp at B),(λh=>by cases h)⟩
 |i+1,hi=>by
  obtain⟨H,h2,E⟩:=aNV J F i (by omega);obtain⟨K,M⟩:=(kY l).1 J;have B:=K _ (List.getElem_mem (show i<l.length by omega));have m:∀y∈l.take i,dZ y<dZ l[i]:=λy f=>by obtain⟨j,N,rfl⟩:=List.getElem_of_mem f;rw [List.getElem_take];rw [List.length_take] at N;exact List.pairwise_iff_getElem.1 M j i (by omega) (by omega) (by omega)
  have k1:=vM B F;have k2:=vM F B;have O:l.take (i+1)=l.take i++ [l[i]]:=List.take_succ_eq_append_getElem (by omega);rw [aJE,aO5 l i (by omega),O];generalize l[i]=x at *;generalize l.take i=L at *;generalize jH l e i=q at *;obtain⟨o,z⟩:=q;dsimp only at H h2 E⊢;subst H;have D:(∀y∈L,dZ y<dZ e)->L.filter (λx=>decide (dZ e<dZ x))=[]:=λh=>by rw [zA];intro y f;have :=h y f;simp only [decide_eq_true_eq];omega
  rw [zD,zD]
  by_cases a:dZ x<dZ e
  ·have e1:eX x e=true:=k1.2 a
   have C:eX e x=false:=by
    cases h:eX e x with
    |false=>rfl
    |true=>have :=k2.1 h;omega
   have G:z=false:=by
    cases z with
    |false=>rfl
    |true=>obtain⟨y,f,h⟩:=E rfl;have :=m y f;omega
   subst G;rw [e1,C,D (h2 rfl)];refine⟨?_,(λ_ y f=>?_),(λh=>by cases h)⟩
   ·simp [a,show ¬dZ e<dZ x by omega]
   ·rcases List.mem_append.1 f with f |f
    ·exact h2 rfl y f
    ·rw [List.mem_singleton.1 f];exact a
  ·have e1:eX x e=false:=by
    cases h:eX x e with
    |false=>rfl
    |true=>exact absurd (k1.1 h) a
   rw [e1];refine⟨?_,(λh=>by simp at h),(λ_=>⟨x,List.mem_append_right _ (List.mem_singleton.2 rfl),by omega⟩)⟩
   by_cases b:dZ e<dZ x
   ·rw [k2.2 b]
    cases z with
    |false=>rw [D (h2 rfl)];simp [a,b]
    |true=>simp [a,b]
   ·have C:eX e x=false:=by
     cases h:eX e x with
     |false=>rfl
     |true=>exact absurd (k2.1 h) b
    have G:z=false:=by
     cases z with
     |false=>rfl
     |true=>obtain⟨y,f,h⟩:=E rfl;have :=m y f;omega
    subst G;rw [C,D (h2 rfl)];simp [a,b]
theorem aSN {l:List Pt} {e:Pt} (j:kU l=true)(m:eN e=true):aQT l e=aYB l e:=by
 obtain⟨f,h2,C⟩:=aNV j m l.length (Nat.le_refl _);rw [List.take_length] at *;unfold aQT aYB;generalize jH l e l.length=q at *;obtain⟨o,B⟩:=q;dsimp only at *;subst f
 cases B with
 |true=>simp
 |false=>
  have :l.filter (λx=>decide (dZ e<dZ x))=[]:=by rw [zA];intro y z;have :=h2 rfl y z;simp only [decide_eq_true_eq];omega
  rw [this];simp
theorem bCW {l:List Pt} {e:Pt} (C:kU l=true)(D:eN e=true):kU (aYB l e)=true:=by
 obtain⟨m,z⟩:=(kY l).1 C;refine(kY _).2 ⟨λx f=>?_,?_⟩
 ·unfold aYB at f;rw [List.mem_append,List.mem_cons] at f;rcases f with f |rfl |f
  ·exact m x (List.mem_filter.1 f).1
  ·exact D
  ·exact m x (List.mem_filter.1 f).1
 ·refine List.pairwise_append.2 ⟨z.sublist zC,List.pairwise_cons.2 ⟨λx f=>by simpa using(List.mem_filter.1 f).2,z.sublist zC⟩,λx f y j=>?_⟩;have B:dZ x<dZ e:=by simpa using(List.mem_filter.1 f).2
  rcases List.mem_cons.1 j with rfl |j
  ·exact B
  ·have h2:dZ e<dZ y:=by simpa using(List.mem_filter.1 j).2
   omega
def Dc.pts(c:Dc)(l:List Pt):Dc:=⟨c.fl,c.fr,c.zo,c.gr,c.ls,c.ck,l⟩
theorem Ok.pts {c:Dc} (h:Ok c) {l:List Pt} (e:kU l=true):Ok (c.pts l):= h.same rfl (λ_ _=>rfl) h.file rfl (λ_=>rfl) (λm v f j=>by have :=h.use m v f j;exact⟨this.pg,this.holds,this.rd,this.wr⟩) rfl rfl rfl h.ls (λ_ _ z=>z) rfl e
def aB9(u:Us)(w:Bool):Us:=bif w then sY u (aES u.p 3) else u
def aW7(pr pg:Int)(m:Nat)(w:Bool):Pt:=⟨pr,pg,((m+1:Nat):Int),w,true⟩
def aVM(c:Dc)(pr pg:Int)(f at_:Nat)(w:Bool):Dc×Int:=
 bif decide ((c.fl.getD f aZ).size<=at_*16) then(c,12) else
 match jP c f at_ with
 |none=>(c,4)
 |some (m,u)=>bif (decide (u.p.v≠3)||(w&&decide (u.wr≠0))) then(c,7) else(((c.put m (aB9 u w)).acc m u.ten).pts (aQT c.pt (aW7 pr pg m w)),0)
def inE(c:Dc)(pr pg f at_:Int):Bool:=decide ((0<=f/\f< (c.fl.length:Int))/\(0<=pr/\pr<8)/\(0<=pg/\pg<64)/\0<=at_/\at_<8)
def aCY(c:Dc)(pr pg f at_:Int)(w:Bool):Dc×Int:=bif inE c pr pg f at_ then aVM c pr pg f.toNat at_.toNat w else(c,2)
theorem aRO {c:Dc} (h:Ok c) {f e:Int} (j:0<=f/\f<8)(h2:0<=e/\e<64) {m:Nat} (hm:m<c.fr.length)(w:Bool):eN (aW7 f e m w)=true:=by have :=h.nr;unfold eN aW7;dsimp only;rw [zdt j.1,zdt j.2,zdt h2.1,zdt h2.2,zdt (show(1:Int)<=((m+1:Nat):Int) by omega),zdt (show((m+1:Nat):Int)<=64 by omega)];rfl
theorem aL8 {u:Us} (h:fQ u.p)(w:Bool):lO (aB9 u w)=lO u/\fQ (aB9 u w).p/\(aB9 u w).holds=u.holds/\(aB9 u w).rd=u.rd/\(aB9 u w).wr=u.wr/\(aB9 u w).ten=u.ten:=by
 cases w with
 |false=>exact⟨rfl,h,rfl,rfl,rfl,rfl⟩
 |true=>exact⟨rfl,aCE h (by decide),rfl,rfl,rfl,rfl⟩
theorem bCU {c:Dc} (h:Ok c) {B z:Int} {f e:Nat} {w:Bool} (J:f<c.fl.length)(H:0<=B/\B<8)(h2:0<=z/\z<64):Ok (aVM c B z f e w).1:=by
 unfold aVM
 cases decide ((c.fl.getD f aZ).size<=e*16) with
 |true=>exact h
 |false=>
  rw [zcf];split
  ·exact h
  ·rename_i m u K;obtain⟨q1,q2,N,O,Q⟩:=dH h J K
   cases(decide (u.p.v≠3)||(w&&decide (u.wr≠0))) with
   |true=>exact h
   |false=> have j:=h.use m u q1 q2;obtain⟨e1,D,E,F,G,M⟩:=aL8 j.pg w;have C:=aRO h H h2 q1 w;exact((h.put q1 q2 e1 D (by rw [E];exact j.holds) (by rw [F];exact j.rd) (by rw [G];exact j.wr)).acc m u.ten).pts (by rw [aSN h.pt C];exact bCW h.pt C)
theorem bCV {c:Dc} (h:Ok c)(z m f j:Int)(w:Bool):Ok (aCY c z m f j w).1:=by
 unfold aCY inE
 by_cases e:(0<=f/\f< (c.fl.length:Int))/\(0<=z/\z<8)/\(0<=m/\m<64)/\0<=j/\j<8
 ·rw [zdt e];exact bCU h (by omega) e.2.1 e.2.2.1
 ·rw [zdf e];exact h
theorem bTC(c:Dc)(h:Ok c)(D C f B:Int)(w:Bool):aM Tryz.prog 68 [] [.agg c.c,.int .i64 D,.int .i64 C,.int .i64 f,.int .i64 B,.bool w] (.tup [.agg (aCY c D C f B w).1.c,.int .i64 (aCY c D C f B w).2]) []:=by
 have G:=aYT c f;generalize j:aCY c D C f B w=q;unfold aCY inE at j
 by_cases N:0<=f/\f< (c.fl.length:Int)
 ·rw [zdt N] at G
  by_cases O:(0<=D/\D<8)/\(0<=C/\C<64)/\0<=B/\B<8
  ·rw [zdt ⟨N,O⟩,zct] at j;obtain⟨f,rfl⟩:∃g:Nat,f=(g:Int):=⟨f.toNat,by omega⟩;obtain⟨a,rfl⟩:∃g:Nat,B=(g:Int):=⟨B.toNat,by omega⟩;simp only [Int.toNat_natCast] at j;have J:f<c.fl.length:=by omega
   have Y:=aAA J;have hs:=(h.file f J).size;obtain⟨k0,k1,k2,k3,W,-⟩:=Df.cells (h.file f J).E;rw [W] at Y;unfold aVM at j;generalize(c.fl.getD f aZ).size=z at *
   by_cases R:z<=a*16
   ·rw [zdt R,zct] at j;subst j;refine aE (ob0:= []) [] Tryz.func68 rfl rfl rfl rfl ?_;exact Wz
   ·rw [zdf R,zcf] at j
    cases K:jP c f a with
    |none=> rw [K] at j;have Z:=h.f33n J K;subst j;refine aE (ob0:= []) [] Tryz.func68 rfl rfl rfl rfl ?_;exact Wz
    |some x=>
     obtain⟨m,u⟩:=x;rw [K] at j;have Z:=h.f33s J K;obtain⟨q1,q2,q3,q4,q5⟩:=dH h J K;have H:=h.use m u q1 q2;have ad:=qA q1 q2;have ae:=h.nr;dsimp only at j
     by_cases Q:u.p.v=3
     ·by_cases F:w=true/\u.wr≠0
      ·rw [F.1,zdf (show ¬u.p.v≠3 from λe=>e Q),zdt F.2] at j;obtain⟨rfl,F⟩:=F;subst j;refine aE (ob0:= []) [] Tryz.func68 rfl rfl rfl rfl ?_;exact Wz
      ·have hr:=aRO h O.1 O.2.1 q1 w;obtain⟨e1,e2,e3,e4,e5,e6⟩:=aL8 H.pg w;have ab:=bOY c.pt (aW7 D C m w) h.pt (by have :=aNH h.pt;omega) hr;have ac:=aZX u.p H.pg 3 (by decide);have aa:=h.p155 (u':=aB9 u w) q1 q2 e1 e2 (by rw [e4];exact H.rd) (by rw [e5];exact H.wr);have o4:=h.put q1 q2 e1 e2 (by rw [e3];exact H.holds) (by rw [e4];exact H.rd) (by rw [e5];exact H.wr);have M:=o4.a127 (n:=m) (u:=aB9 u w) (by rw [vW];exact q1) (aH _ _ _ _ q1);rw [e6] at M
       have j:(((c.put m (aB9 u w)).acc m u.ten).pts (aQT c.pt (aW7 D C m w)),(0:Int))=q:=by
        rw [<-j,zdf (show ¬u.p.v≠3 from λe=>e Q)]
        cases w with
        |false=>rfl
        |true=>rw [zdf (λe=>F ⟨rfl,e⟩)];rfl
       subst j;generalize aQT c.pt (aW7 D C m w)=T at *;unfold aB9 at *
       cases w with
       |false=> dsimp only [zcf] at *;generalize(c.put m u).acc m u.ten=d at *;refine aE (ob0:= []) [] Tryz.func68 rfl rfl rfl rfl ?_;exact Wz
       |true=>
        dsimp only [zct] at *
        have F:u.wr=0:=by
         by_cases e:u.wr=0
         ·exact e
         ·exact absurd ⟨rfl,e⟩ F
        generalize(c.put m (sY u (aES u.p 3))).acc m u.ten=d at *;refine aE (ob0:= []) [] Tryz.func68 rfl rfl rfl rfl ?_;exact Wz
     ·rw [zdt Q] at j;subst j;refine aE (ob0:= []) [] Tryz.func68 rfl rfl rfl rfl ?_;exact Wz
  ·rw [zdf (λe=>O e.2),zcf] at j;subst j
   by_cases R:D<0
   ·refine aE (ob0:= []) [] Tryz.func68 rfl rfl rfl rfl ?_;exact Wz
   by_cases Q:8<=D
   ·refine aE (ob0:= []) [] Tryz.func68 rfl rfl rfl rfl ?_;exact Wz
   by_cases F:C<0
   ·refine aE (ob0:= []) [] Tryz.func68 rfl rfl rfl rfl ?_;exact Wz
   by_cases b4:64<=C
   ·refine aE (ob0:= []) [] Tryz.func68 rfl rfl rfl rfl ?_;exact Wz
   by_cases b5:B<0
   ·refine aE (ob0:= []) [] Tryz.func68 rfl rfl rfl rfl ?_;exact Wz
   have b6:8<=B:=by omega
   refine aE (ob0:= []) [] Tryz.func68 rfl rfl rfl rfl ?_;exact Wz
 ·rw [zdf N] at G;rw [zdf (λe=>N e.1),zcf] at j;subst j;refine aE (ob0:= []) [] Tryz.func68 rfl rfl rfl rfl ?_;exact Wz
end Go.Proofs.YtmhapcbjjpadnaaGreat
