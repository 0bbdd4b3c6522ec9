/- Caches. -/
import Derived.Test.YtmhapcbjjpadnaaGreatGXg
import Derived.Test.YtmhapcbjjpadnaaGreatGFg
set_option linter.all false
set_option maxHeartbeats 8000000
set_option maxRecDepth 40000
open List renaming filter_eq_nil_iff→zA,filter_sublist→zC,filter_append→zD
namespace Go.Proofs.YtmhapcbjjpadnaaGreat
open Go Go.Sk Go.RowKit
def aXG(l:List Pt)(e:Pt):List Pt:=l.filter (λx=>decide (dQ x<dQ e))++e::l.filter (λx=>decide (dQ e<dQ x))
theorem aN2 {l:List Pt} {e:Pt} (hc:kP l=true)(F:eG e=true):∀i,i<=l.length->
 (iY l e i).1=(l.take i).filter (λx=>decide (dQ x<dQ e))++((bif (iY l e i).2 then [e] else [])++(l.take i).filter (λx=>decide (dQ e<dQ x)))/\((iY l e i).2=false->∀x∈l.take i,dQ x<dQ e)/\((iY l e i).2=true->∃x∈l.take i,dQ e<=dQ x)
 |0,_=>⟨rfl,(λ_ x B=>by simp at B),(λh=>by cases h)⟩
 |i+1,hi=>by
  obtain⟨h1,h2,E⟩:=aN2 hc F i (by omega);obtain⟨H,J⟩:=(kQ l).1 hc;have B:=H _ (List.getElem_mem (show i<l.length by omega));have m:∀y∈l.take i,dQ y<dQ l[i]:=λy f=>by obtain⟨j,K,rfl⟩:=List.getElem_of_mem f;rw [List.getElem_take];rw [List.length_take] at K;exact List.pairwise_iff_getElem.1 J j i (by omega) (by omega) (by omega)
  have k1:=uU B F;have k2:=uU F B;have M:l.take (i+1)=l.take i++ [l[i]]:=List.take_succ_eq_append_getElem (by omega);rw [aIT,aNB l i (by omega),M];generalize l[i]=x at *;generalize l.take i=L at *;generalize iY l e i=q at *;obtain⟨o,z⟩:=q;dsimp only at h1 h2 E⊢;subst h1;have D:(∀y∈L,dQ y<dQ e)->L.filter (λx=>decide (dQ e<dQ x))=[]:=λh=>by rw [zA];intro y f;have :=h y f;simp only [decide_eq_true_eq];omega
  rw [zD,zD]
  by_cases a:dQ x<dQ e
  ·have e1:eL x e=true:=k1.2 a
   have C:eL e x=false:=by
    cases h:eL e x with
    |false=>rfl
    |true=>have :=k2.1 h;omega
   have G:z=false:=by
    cases z with
    |false=>rfl
    |true=>obtain⟨y,f,h⟩:=E rfl;have :=m y f;omega
   subst G;rw [e1,C,D (h2 rfl)];refine⟨?_,(λ_ y f=>?_),(λh=>by cases h)⟩
   ·simp [a,show ¬dQ e<dQ x by omega]
   ·rcases List.mem_append.1 f with f |f
    ·exact h2 rfl y f
    ·rw [List.mem_singleton.1 f];exact a
  ·have e1:eL x e=false:=by
    cases h:eL x e with
    |false=>rfl
    |true=>exact absurd (k1.1 h) a
   rw [e1];refine⟨?_,(λh=>by simp at h),(λ_=>⟨x,List.mem_append_right _ (List.mem_singleton.2 rfl),by omega⟩)⟩
   by_cases b:dQ e<dQ x
   ·rw [k2.2 b]
    cases z with
    |false=>rw [D (h2 rfl)];simp [a,b]
    |true=>simp [a,b]
   ·have C:eL e x=false:=by
     cases h:eL e x with
     |false=>rfl
     |true=>exact absurd (k2.1 h) b
    have G:z=false:=by
     cases z with
     |false=>rfl
     |true=>obtain⟨y,f,h⟩:=E rfl;have :=m y f;omega
    subst G;rw [C,D (h2 rfl)];simp [a,b]
theorem aRX {l:List Pt} {e:Pt} (hc:kP l=true)(f:eG e=true):aPZ l e=aXG l e:=by
 obtain⟨h1,h2,z⟩:=aN2 hc f l.length (Nat.le_refl _);rw [List.take_length] at *;unfold aPZ aXG;generalize iY l e l.length=q at *;obtain⟨o,m⟩:=q;dsimp only at *;subst h1
 cases m with
 |true=>simp
 |false=>
  have :l.filter (λx=>decide (dQ e<dQ x))=[]:=by rw [zA];intro y j;have :=h2 rfl y j;simp only [decide_eq_true_eq];omega
  rw [this];simp
theorem bCH {l:List Pt} {e:Pt} (hc:kP l=true)(B:eG e=true):kP (aXG l e)=true:=by
 obtain⟨m,z⟩:=(kQ l).1 hc;refine(kQ _).2 ⟨λx f=>?_,?_⟩
 ·unfold aXG at f;rw [List.mem_append,List.mem_cons] at f;rcases f with f |rfl |f
  ·exact m x (List.mem_filter.1 f).1
  ·exact B
  ·exact m x (List.mem_filter.1 f).1
 ·refine List.pairwise_append.2 ⟨z.sublist zC,List.pairwise_cons.2 ⟨λx f=>by simpa using(List.mem_filter.1 f).2,z.sublist zC⟩,λx f y j=>?_⟩;have h1:dQ x<dQ e:=by simpa using(List.mem_filter.1 f).2
  rcases List.mem_cons.1 j with rfl |j
  ·exact h1
  ·have h2:dQ e<dQ y:=by simpa using(List.mem_filter.1 j).2
   omega
def Dc.pts(c:Dc)(l:List Pt):Dc:=⟨c.fl,c.fr,c.zo,c.gr,c.ls,c.ck,l⟩
theorem Ok.pts {c:Dc} (h:Ok c) {l:List Pt} (e:kP l=true):Ok (c.pts l):= h.same rfl (λ_ _=>rfl) h.file rfl (λ_=>rfl) (λm v f j=>by have :=h.use m v f j;exact⟨this.pg,this.holds,this.rd,this.wr⟩) rfl rfl rfl h.ls (λ_ _ z=>z) rfl e
def aAU(u:Us)(w:Bool):Us:=bif w then sS u (aE4 u.p 3) else u
def aV9(pr pg:Int)(m:Nat)(w:Bool):Pt:=⟨pr,pg,((m+1:Nat):Int),w,true⟩
def aUP(c:Dc)(pr pg:Int)(f at_:Nat)(w:Bool):Dc×Int:=
 bif decide ((c.fl.getD f aX).size<=at_*16) then(c,12) else
 match jH c f at_ with
 |none=>(c,4)
 |some (m,u)=>bif (decide (u.p.v≠3)||(w&&decide (u.wr≠0))) then(c,7) else(((c.put m (aAU u w)).acc m u.ten).pts (aPZ c.pt (aV9 pr pg m w)),0)
def inE(c:Dc)(pr pg f at_:Int):Bool:=decide ((0<=f/\f< (c.fl.length:Int))/\(0<=pr/\pr<8)/\(0<=pg/\pg<64)/\0<=at_/\at_<8)
def aC9(c:Dc)(pr pg f at_:Int)(w:Bool):Dc×Int:=bif inE c pr pg f at_ then aUP c pr pg f.toNat at_.toNat w else(c,2)
theorem aQW {c:Dc} (h:Ok c) {f e:Int} (h1:0<=f/\f<8)(h2:0<=e/\e<64) {m:Nat} (hm:m<c.fr.length)(w:Bool):eG (aV9 f e m w)=true:=by have :=h.nr;unfold eG aV9;dsimp only;rw [zdt h1.1,zdt h1.2,zdt h2.1,zdt h2.2,zdt (show(1:Int)<=((m+1:Nat):Int) by omega),zdt (show((m+1:Nat):Int)<=64 by omega)];rfl
theorem aKK {u:Us} (h:fJ u.p)(w:Bool):lC (aAU u w)=lC u/\fJ (aAU u w).p/\(aAU u w).holds=u.holds/\(aAU u w).rd=u.rd/\(aAU u w).wr=u.wr/\(aAU u w).ten=u.ten:=by
 cases w with
 |false=>exact⟨rfl,h,rfl,rfl,rfl,rfl⟩
 |true=>exact⟨rfl,aBQ h (by decide),rfl,rfl,rfl,rfl⟩
theorem bCF {c:Dc} (h:Ok c) {B z:Int} {f e:Nat} {w:Bool} (H:f<c.fl.length)(h1:0<=B/\B<8)(h2:0<=z/\z<64):Ok (aUP c B z f e w).1:=by
 unfold aUP
 cases decide ((c.fl.getD f aX).size<=e*16) with
 |true=>exact h
 |false=>
  rw [zcf];split
  ·exact h
  ·rename_i m u J;obtain⟨q1,q2,M,N,O⟩:=cY h H J
   cases(decide (u.p.v≠3)||(w&&decide (u.wr≠0))) with
   |true=>exact h
   |false=> have j:=h.use m u q1 q2;obtain⟨e1,D,E,F,G,K⟩:=aKK j.pg w;have C:=aQW h h1 h2 q1 w;exact((h.put q1 q2 e1 D (by rw [E];exact j.holds) (by rw [F];exact j.rd) (by rw [G];exact j.wr)).acc m u.ten).pts (by rw [aRX h.pt C];exact bCH h.pt C)
theorem bCG {c:Dc} (h:Ok c)(z m f j:Int)(w:Bool):Ok (aC9 c z m f j w).1:=by
 unfold aC9 inE
 by_cases e:(0<=f/\f< (c.fl.length:Int))/\(0<=z/\z<8)/\(0<=m/\m<64)/\0<=j/\j<8
 ·rw [zdt e];exact bCF h (by omega) e.2.1 e.2.2.1
 ·rw [zdf e];exact h
theorem bRY(c:Dc)(h:Ok c)(D C f B:Int)(w:Bool):aM Tryz.prog 68 [] [.agg c.c,.int .i64 D,.int .i64 C,.int .i64 f,.int .i64 B,.bool w] (.tup [.agg (aC9 c D C f B w).1.c,.int .i64 (aC9 c D C f B w).2]) []:=by
 have G:=aXZ c f;generalize j:aC9 c D C f B w=q;unfold aC9 inE at j
 by_cases N:0<=f/\f< (c.fl.length:Int)
 ·rw [zdt N] at G
  by_cases O:(0<=D/\D<8)/\(0<=C/\C<64)/\0<=B/\B<8
  ·rw [zdt ⟨N,O⟩,zct] at j;obtain⟨f,rfl⟩:∃g:Nat,f=(g:Int):=⟨f.toNat,by omega⟩;obtain⟨a,rfl⟩:∃g:Nat,B=(g:Int):=⟨B.toNat,by omega⟩;simp only [Int.toNat_natCast] at j;have J:f<c.fl.length:=by omega
   have Y:=vS J;have hs:=(h.file f J).size;obtain⟨k0,k1,k2,k3,W,-⟩:=Df.cells (h.file f J).E;rw [W] at Y;unfold aUP at j;generalize(c.fl.getD f aX).size=z at *
   by_cases R:z<=a*16
   ·rw [zdt R,zct] at j;subst j;refine aG (ob0:= []) [] Tryz.func68 rfl rfl rfl rfl ?_;exact Wz
   ·rw [zdf R,zcf] at j
    cases K:jH c f a with
    |none=> rw [K] at j;have Z:=h.f33n J K;subst j;refine aG (ob0:= []) [] Tryz.func68 rfl rfl rfl rfl ?_;exact Wz
    |some x=>
     obtain⟨m,u⟩:=x;rw [K] at j;have Z:=h.f33s J K;obtain⟨q1,q2,q3,q4,q5⟩:=cY h J K;have H:=h.use m u q1 q2;have ad:=qW q1 q2;have ae:=h.nr;dsimp only at j
     by_cases Q:u.p.v=3
     ·by_cases F:w=true/\u.wr≠0
      ·rw [F.1,zdf (show ¬u.p.v≠3 from λe=>e Q),zdt F.2] at j;obtain⟨rfl,F⟩:=F;subst j;refine aG (ob0:= []) [] Tryz.func68 rfl rfl rfl rfl ?_;exact Wz
      ·have hr:=aQW h O.1 O.2.1 q1 w;obtain⟨e1,e2,e3,e4,e5,e6⟩:=aKK H.pg w;have ab:=bNO c.pt (aV9 D C m w) h.pt (by have :=aMO h.pt;omega) hr;have ac:=aZ3 u.p H.pg 3 (by decide);have aa:=h.p155 (u':=aAU u w) q1 q2 e1 e2 (by rw [e4];exact H.rd) (by rw [e5];exact H.wr);have o4:=h.put q1 q2 e1 e2 (by rw [e3];exact H.holds) (by rw [e4];exact H.rd) (by rw [e5];exact H.wr);have M:=o4.a127 (n:=m) (u:=aAU u w) (by rw [vD];exact q1) (aE _ _ _ _ q1);rw [e6] at M
       have j:(((c.put m (aAU u w)).acc m u.ten).pts (aPZ c.pt (aV9 D C m w)),(0:Int))=q:=by
        rw [<-j,zdf (show ¬u.p.v≠3 from λe=>e Q)]
        cases w with
        |false=>rfl
        |true=>rw [zdf (λe=>F ⟨rfl,e⟩)];rfl
       subst j;generalize aPZ c.pt (aV9 D C m w)=T at *;unfold aAU at *
       cases w with
       |false=> dsimp only [zcf] at *;generalize(c.put m u).acc m u.ten=d at *;refine aG (ob0:= []) [] Tryz.func68 rfl rfl rfl rfl ?_;exact Wz
       |true=>
        dsimp only [zct] at *
        have F:u.wr=0:=by
         by_cases e:u.wr=0
         ·exact e
         ·exact absurd ⟨rfl,e⟩ F
        generalize(c.put m (sS u (aE4 u.p 3))).acc m u.ten=d at *;refine aG (ob0:= []) [] Tryz.func68 rfl rfl rfl rfl ?_;exact Wz
     ·rw [zdt Q] at j;subst j;refine aG (ob0:= []) [] Tryz.func68 rfl rfl rfl rfl ?_;exact Wz
  ·rw [zdf (λe=>O e.2),zcf] at j;subst j
   by_cases R:D<0
   ·refine aG (ob0:= []) [] Tryz.func68 rfl rfl rfl rfl ?_;exact Wz
   by_cases Q:8<=D
   ·refine aG (ob0:= []) [] Tryz.func68 rfl rfl rfl rfl ?_;exact Wz
   by_cases F:C<0
   ·refine aG (ob0:= []) [] Tryz.func68 rfl rfl rfl rfl ?_;exact Wz
   by_cases b4:64<=C
   ·refine aG (ob0:= []) [] Tryz.func68 rfl rfl rfl rfl ?_;exact Wz
   by_cases b5:B<0
   ·refine aG (ob0:= []) [] Tryz.func68 rfl rfl rfl rfl ?_;exact Wz
   have b6:8<=B:=by omega
   refine aG (ob0:= []) [] Tryz.func68 rfl rfl rfl rfl ?_;exact Wz
 ·rw [zdf N] at G;rw [zdf (λe=>N e.1),zcf] at j;subst j;refine aG (ob0:= []) [] Tryz.func68 rfl rfl rfl rfl ?_;exact Wz
end Go.Proofs.YtmhapcbjjpadnaaGreat
