/- Caches. -/
import Derived.Test.YtmhapcbjjpadnaaGreatK6b
set_option linter.all false
open Bool renaming and_eq_true→zC
open List renaming getElem?_eq_getElem→zD,mem_of_getElem?→zF,getElem?_cons_succ→zG,getElem?_cons_zero→zH,mem_cons_of_mem→zI,getElem?_of_mem→zJ,mem_singleton→zK
open Nat renaming eq_of_beq_eq_true→zA,le_of_ble_eq_true→zE,sub_zero→zL,zero_le→zM
namespace Go.Sk
open Go Go.RowKit
variable [gH]
def aRT(S:aD):V->Bool
 | .sl k off len=>match S.get k with
   |some (.row _ xs)=>Nat.ble (off+len) xs.length
   |_=>true
 | .slk k off len _=>match S.get k with
   |some (.row _ xs)=>Nat.ble (off+len) xs.length
   |_=>true
 | .ptr k i _=>match S.get k with
   |some (.box cs)=>Nat.beq i 0&&cs.all cD
   |_=>true
 |_=>true
def puB(S:aD):V->Bool
 | .agg cs=>cs.all (aRT S)
 | .fn _ cs=>cs.all (aRT S)
 |v=>aRT S v
theorem aIA {S:aD} {v:V} (h:aRT S v=true):iQ S v:=by
 cases v <;> simp only [iQ] <;> try trivial
 all_goals
  simp only [aRT] at h
  split
  ·rename_i h1
   simp only [h1] at h
   first
    |exact zE h
    | (rw [zC] at h;exact⟨zA h.1,h.2⟩)
  ·trivial
theorem aVL {S:aD} {v:V} (h:puB S v=true):nM S v:=by
 have e:(∃cs,v=.agg cs)\/(∃f cs,v=.fn f cs)\/(puB S v=aRT S v/\nM S v=iQ S v):=by cases v <;> simp [puB,nM]
 rcases e with ⟨cs,rfl⟩| ⟨f,cs,rfl⟩| ⟨h1,h2⟩
 ·exact λc hc=>aIA (List.all_eq_true.1 h c hc)
 ·exact λc hc=>aIA (List.all_eq_true.1 h c hc)
 ·rw [h1] at h;rw [h2];exact aIA h
def addN(k:Nat)(l:List Nat):List Nat:=match gP k l with |true=>l |false=>l++ [k]
def nm1:V->List Nat->List Nat
 | .ptr k _ _,l=>addN k l
 | .sl k _ _,l=>addN k l
 | .slx k _ _,l=>addN k l
 | .slk k _ _ _,l=>addN k l
 | .mp k,l=>addN k l
 |_,l=>l
def aKX:List V->List Nat->List Nat
 | [],l=>l
 |v::r,l=>aKX r (nm1 v l)
def nm2:V->List Nat->List Nat
 | .agg cs,l=>aKX cs l
 | .fn _ cs,l=>aKX cs l
 | .tup cs,l=>nmT cs l
 |v,l=>nm1 v l
where nmT:List V->List Nat->List Nat
 | [],l=>l
 | .agg cs::r,l=>nmT r (aKX cs l)
 | .fn _ cs::r,l=>nmT r (aKX cs l)
 |v::r,l=>nmT r (nm1 v l)
def aUD:List V->List Nat->List Nat
 | [],l=>l
 |v::r,l=>aUD r (nm2 v l)
def nmB(S:aD):List Nat->List Nat->List Nat
 | [],l=>l
 |k::r,l=>match S.get k with
  |some (.box cs)=>nmB S r (aKX cs l)
  |_=>nmB S r l
def aKM(S:aD)(args:List V):List Nat:=
 let l:=aUD args []
 let l:=nmB S l l
 nmB S l l
def qK(S:aD)(L0:List Nat):List Nat->Option (List Obj)
 | []=>some []
 |k::L=>match S.get k,qK S L0 L with
  |some p,some obs=>some (aME L0 p::obs)
  |_,_=>none
theorem mF {S:aD} {L0:List Nat} :∀ {L:List Nat} {obs:List Obj},qK S L0 L=some obs->uK S L0 L obs
 | [],obs,h=>by obtain rfl:=Option.some.inj h;trivial
 |k::L,obs,h=>by
  simp only [qK] at h
  split at h
  ·rename_i p obs' h1 h2
   obtain rfl:=Option.some.inj h
   refine⟨?_,mF h2⟩
   rw [h1]
  ·cases h
def kK:List Obj->(List Obj->Prop)->Prop
 | [],K=>K []
 | .row es xs::r,K=>kK r λr=>K (.row es xs::r)
 | .box cs::r,K=>iL cs λcs=>kK r λr=>K (.box cs::r)
 | .mp xs::r,K=>kK r λr=>K (.mp xs::r)
 | .bb l::r,K=>kK r λr=>K (.bb l::r)
theorem qE(l:List Obj)(K:List Obj->Prop):kK l K=K l:=by
 induction l generalizing K with
 |nil=>rfl
 |cons o r ih=>cases o <;> simp only [kK,fE,ih]
def aB7(k:Nat):List (Option Nat)->Nat->Option Nat
 | [],_=>none
 |some h::t,j=>match Nat.beq k h with
  |true=>some j
  |false=>aB7 k t (j+1)
 |none::t,j=>aB7 k t (j+1)
theorem pN:∀ {k:Nat} {L:List (Option Nat)} {i j:Nat},aB7 k L i=some j->i<=j/\L[j-i]? =some (some k)
 |_,[],_,_,h=>by simp [aB7] at h
 |k,some h::t,i,j,hp=>by
  simp only [aB7] at hp
  split at hp
  ·rename_i hb
   obtain rfl:=Option.some.inj hp
   rw [zA hb];simp
  ·obtain⟨h1,h2⟩:=pN hp
   refine⟨by omega,?_⟩
   rw [show j-i=(j- (i+1))+1 by omega,zG];exact h2
 |k,none::t,i,j,hp=>by
  simp only [aB7] at hp
  obtain⟨h1,h2⟩:=pN hp
  refine⟨by omega,?_⟩
  rw [show j-i=(j- (i+1))+1 by omega,zG];exact h2
theorem tI:∀ {k:Nat} {L:List (Option Nat)} {i:Nat},aB7 k L i=none->aE0 k L=false
 |_,[],_,_=>rfl
 |k,some h::t,i,hp=>by
  simp only [aB7] at hp
  split at hp
  ·cases hp
  ·rename_i hb
   simp only [aE0,hb,Bool.false_or];exact tI hp
 |k,none::t,i,hp=>by simp only [aB7] at hp;simp only [aE0];exact tI hp
def vI(S:aD)(ids:List (Option Nat)):V->V
 | .sl k off len=>match aB7 k ids 0 with
   |some j=>.sl j off len
   |none=>match S.get k with
    |some (.row es xs)=>match Nat.ble (off+len) xs.length with
     |true=>.lst es false ((xs.drop off).take len)
     |false=>.any
    |_=>.any
 | .slk k off len c=>match aB7 k ids 0 with
   |some j=>.slk j off len c
   |none=>match S.get k with
    |some (.row es xs)=>match Nat.ble (off+len) xs.length with
     |true=>.lst es false ((xs.drop off).take len)
     |false=>.any
    |_=>.any
 | .ptr k i c=>match aB7 k ids 0 with
   |some j=>.ptr j i c
   |none=>.any
 | .mp k=>match aB7 k ids 0 with
   |some j=>.mp j
   |none=>.any
 | .lst es t xs=>.lst es t xs
 | .int k n=>.int k n
 | .bool b=>.bool b
 | .str s=>.str s
 | .nil=>.nil
 | .val v=>.val v
 | .rp es cs c=>.rp es cs c
 |_=>.any
theorem aDA(S:aD)(ids:List (Option Nat))(x:V):vw1 S ids x (vI S ids x):=by
 cases x with
 |sl k off len=>
  simp only [vI]
  split
  ·rename_i j hj
   have :=(pN hj).2
   exact⟨by simpa using this,rfl,rfl⟩
  ·rename_i hn
   split
   ·rename_i es xs ho
    split
    ·rename_i hb
     simp [vw1,ho,tI hn,zE hb]
    ·trivial
   ·trivial
 |slk k off len c=>
  simp only [vI]
  split
  ·rename_i j hj
   have :=(pN hj).2
   exact⟨by simpa using this,rfl,rfl,rfl⟩
  ·rename_i hn
   split
   ·rename_i es xs ho
    split
    ·rename_i hb
     simp [vw1,ho,tI hn,zE hb]
    ·trivial
   ·trivial
 |ptr k i c=>
  simp only [vI]
  split
  ·rename_i j hj
   have :=(pN hj).2
   exact⟨by simpa using this,rfl,rfl⟩
  ·trivial
 |mp k=>
  simp only [vI]
  split
  ·rename_i j hj
   have :=(pN hj).2
   simpa [vw1] using this
  ·trivial
 |lst es t xs=>exact⟨.inl rfl,id,rfl⟩
 |int k n=>exact⟨rfl,rfl⟩
 |bool b=>rfl
 |str s=>rfl
 |nil=>rfl
 |val v=>rfl
 |rp es cs c=>rfl
 |_=>trivial
theorem rM {p:V->V->Prop} {f:V->V} (h:∀x,p x (f x)):∀xs:List V,aJD p xs (xs.map f)
 | []=>trivial
 |x::r=>⟨h x,rM h r⟩
def aK5(S:aD)(ids:List (Option Nat)):V->V
 | .agg cs=>.agg (cs.map (vI S ids))
 | .fn f cs=>.fn f (cs.map (vI S ids))
 |v=>vI S ids v
theorem aAQ(S:aD)(ids:List (Option Nat))(x:V):(∀cs,vI S ids x≠ .agg cs)/\(∀f cs,vI S ids x≠ .fn f cs)/\∀cs,vI S ids x≠ .tup cs:=by
 cases x <;> simp only [vI] <;>(repeat' split)<;> refine⟨?_,?_,?_⟩<;> intros <;> simp
theorem bA5 {S:aD} {ids:List (Option Nat)} {x y:V} (h:vw1 S ids x y)(h1:∀cs,y≠ .agg cs)(h2:∀f cs,y≠ .fn f cs):vw2 S ids x y:=by
 unfold vw2
 split
 ·exact absurd rfl (h1 _)
 ·exact absurd rfl (h2 _ _)
 ·exact h
theorem aDX(S:aD)(ids:List (Option Nat))(x:V):(∃cs,x=.agg cs)\/(∃f cs,x=.fn f cs)\/aK5 S ids x=vI S ids x:=by
 cases x <;> simp [aK5]
theorem aQF(S:aD)(ids:List (Option Nat))(x:V):vw2 S ids x (aK5 S ids x):=by
 rcases aDX S ids x with ⟨cs,rfl⟩| ⟨f,cs,rfl⟩|h
 ·exact rM (aDA S ids) cs
 ·exact⟨rfl,rM (aDA S ids) cs⟩
 ·rw [h];exact bA5 (aDA S ids x) (aAQ S ids x).1 (aAQ S ids x).2.1
def aYC(S:aD)(ids:List (Option Nat)):V->V
 | .tup cs=>.tup (cs.map (aK5 S ids))
 |v=>aK5 S ids v
theorem aR8(S:aD)(ids:List (Option Nat))(x:V):∀cs,aK5 S ids x≠ .tup cs:=by
 rcases aDX S ids x with ⟨cs,rfl⟩| ⟨f,cs,rfl⟩|h
 ·intro cs h;cases h
 ·intro cs h;cases h
 ·rw [h];exact(aAQ S ids x).2.2
theorem bA6(S:aD)(ids:List (Option Nat))(x:V):vw3 S ids x (aYC S ids x):=by
 have e:(∃cs,x=.tup cs)\/aYC S ids x=aK5 S ids x:=by cases x <;> simp [aYC]
 rcases e with ⟨cs,rfl⟩|h
 ·exact rM (aQF S ids) cs
 ·rw [h]
  have hk:=aR8 S ids x
  have hv:=aQF S ids x
  generalize aK5 S ids x=y at hk hv
  unfold vw3
  split
  ·exact absurd rfl (hk _)
  ·exact hv
def bLT(S:aD)(ids:List (Option Nat)):Obj->Obj
 | .row es xs=>.row es xs
 | .box cs=>.box (cs.map (vI S ids))
 | .mp xs=>.mp xs
 | .bb l=>.bb l
def aYW(S:aD)(ids:List (Option Nat)):List (Option Nat)->Option (List Obj)
 | []=>some []
 |some k::r=>match S.get k,aYW S ids r with
  |some o,some os=>some (bLT S ids o::os)
  |_,_=>none
 |none::_=>none
theorem aPA {S:aD} {ids:List (Option Nat)} :∀ {l:List (Option Nat)} {os:List Obj},aYW S ids l=some os->nY S ids l os
 | [],os,h=>by obtain rfl:=Option.some.inj h;trivial
 |some k::r,os,h=>by
  simp only [aYW] at h
  split at h
  ·rename_i o os' h1 h2
   obtain rfl:=Option.some.inj h
   refine⟨?_,aPA h2⟩
   rw [h1]
   cases o with
   |row es xs=>exact⟨rfl,rfl⟩
   |box cs=>exact rM (aDA S ids) cs
   |mp xs=>rfl
   |bb l=>rfl
  ·cases h
 |none::r,os,h=>by cases h
def aDV:Nat->Nat->List (Option Nat)
 |_,0=> []
 |i,n+1=>some i::aDV (i+1) n
theorem aBQ:∀(n i:Nat) (r:List (Option Nat)),nF i n (aDV i n++r)
 |0,_,_=>by simp [nF]
 |n+1,i,r=>⟨rfl,aBQ n (i+1) r⟩
def aIK(n0:Nat):List Nat->List (Option Nat)
 | []=> []
 |k::r=>match Nat.blt k n0 with
  |true=>aIK n0 r
  |false=>some k::aIK n0 r
def aMX:List Nat->Nat->List (Option Nat)->List (Option Nat)
 |_,_,[]=> []
 |dp,i,x::r=>match gP i dp with
  |true=>aMX dp (i+1) r
  |false=>x::aMX dp (i+1) r
def bGS(own:Bool)(dp:List Nat)(n0:Nat)(S:aD)(v:V):List (Option Nat):=
 aDV 0 n0++(match own with
  |true=>aMX dp 0 (aIK n0 (nmB S (nm2 v []) (nm2 v [])))
  |false=> [])
def rvF(st:St):RV->(V->Prop)->Prop
 | .tmp t,K=>K (bZ st.sl [] (.t t))
 | .cell t agg n,K=>rdF st.so (.ld agg n (.t t)) (bZ st.sl []) true K
def aZW(st:St):List RV->(List V->Prop)->Prop
 | [],K=>K []
 |r::rs,K=>rvF st r λv=>lY v λv=>aZW st rs λvs=>K (v::vs)
theorem aQ3(st:St):∀(l:List RV) (K:List V->Prop),aZW st l K=aFI st l K
 | [],_=>rfl
 |r::rs,K=>by
  simp only [aZW,aFI,gZ,aQ3 st rs]
  cases r with
  |tmp t=>rfl
  |cell t agg n=>simp only [rvF,rvK,aNP]
def aX4(n0:Nat)(own:Bool)(dp:List Nat)(rvs:List RV)(K:V->List Obj->Prop)(st:St):Prop:=
 aZW st rvs λvs=>match bGS own dp n0 st.so (aNJ vs) with
  |ids=>match aYW st.so ids ids with
   |some ob1=>rq (qL ids&&Nat.ble n0 ob1.length) (kK ob1 λob1=>lY (aYC st.so ids (aNJ vs)) λv=>K v ob1)
   |none=>False
theorem aU1 {S:aD} {agg:Bool} {n:Nat} {x:A} {e:A->V} {gc:Bool} {K K':V->Prop} (hm:∀v,K v->K' v)(h:fU S (.ld agg n x) e gc K):fU S (.ld agg n x) e gc K':=by
 simp only [fU] at h⊢
 split at h
 ·split at h
  ·exact⟨h.1,h.2.1,hm _ h.2.2⟩
  ·exact⟨h.1,hm _ h.2⟩
  ·exact⟨h.1,hm _ h.2⟩
 ·exact⟨h.1,hm _ h.2⟩
 ·exact⟨h.1,hm _ h.2⟩
theorem aBD {st:St} :∀ {l:List RV} {K:List V->Prop},aFI st l K->∃vs,K vs/\∀K',K' vs->aFI st l K'
 | [],K,h=>⟨[],h,λ_ h=>h⟩
 |r::rs,K,h=>by
  simp only [aFI] at h
  cases r with
  |tmp t=>
   obtain⟨vs,h1,h2⟩:=aBD (l:=rs) (K:=λvs=>K (bZ st.sl [] (.t t)::vs)) h
   exact⟨_,h1,λK' h'=>h2 _ h'⟩
  |cell t agg n=>
   obtain⟨v,h1,h2⟩:=aID (show fU st.so (.ld agg n (.t t)) (bZ st.sl []) true (λv=>aFI st rs λvs=>K (v::vs)) from h)
   obtain⟨vs,h3,h4⟩:=aBD h1
   refine⟨v::vs,h3,λK' h'=>?_⟩
   simp only [aFI,rvK]
   exact aU1 (λv' e=>by subst e;exact h4 _ h') h2
theorem aOB {n0:Nat} {own:Bool} {dp:List Nat} {rvs:List RV} {K:V->List Obj->Prop} {st:St} (h:aX4 n0 own dp rvs K st):∃res ob1,K res ob1/\aM7 n0 rvs res ob1 st:=by
 unfold aX4 at h
 rw [aQ3] at h
 obtain⟨vs,h1,h2⟩:=aBD h
 dsimp only at h1
 split at h1
 ·rename_i ob1 hob
  rw [fN,qE,gZ,zC] at h1
  obtain⟨⟨hn,hb⟩,hk⟩:=h1
  exact⟨_,_,hk,h2 _ ⟨_,aPA hob,hn,aBQ n0 0 _,hb,bA6 _ _ _⟩⟩
 ·exact h1.elim
end Go.Sk
namespace Go.Sk
open Go Go.RowKit
variable [gH]
theorem aQS {op:BinOp} {k:IntKind} {a b:Int} {gc:Bool} {K K':V->Prop} (hm:∀v,K v->K' v)(h:aCL op k a b gc K):aCL op k a b gc K':=by
 cases op <;> simp only [aCL] at h⊢<;> first |exact hm _ h |exact⟨h.1,hm _ h.2⟩
theorem aVQ {S:aD} {i:I} {e:A->V} {gc:Bool} {K K':V->Prop} (hm:∀v,K v->K' v)(h:fU S i e gc K):fU S i e gc K':=by
 revert h
 unfold fU
 repeat' split
 all_goals intro h
 all_goals first
  |exact h.elim
  |exact⟨h.1,aQS hm h.2⟩
  |exact oU (λr=>hm _) h
  |exact hm _ h
  |exact⟨h.1,hm _ h.2⟩
  |exact⟨h.1,h.2.1,hm _ h.2.2⟩
theorem aLT {S:aD} {n:Nat} {i:I} {e:A->V} {K K':V->aD->Nat->Prop} (hm:∀a b c,K a b c->K' a b c)(h:nZ S n i e K):nZ S n i e K':=by
 revert h
 unfold nZ
 repeat' split
 all_goals intro h
 all_goals first
  |exact h.elim
  |exact hm _ _ _ h
  |exact⟨h.1,hm _ _ _ h.2⟩
  |exact⟨h.1,h.2.1,hm _ _ _ h.2.2⟩
  |exact⟨h.1,h.2.1,h.2.2.1,hm _ _ _ h.2.2.2⟩
  |exact⟨h.1,h.2.1,h.2.2.1,h.2.2.2.1,hm _ _ _ h.2.2.2.2⟩
  |exact⟨h.1,h.2.1,h.2.2.1,h.2.2.2.1,h.2.2.2.2.1,hm _ _ _ h.2.2.2.2.2⟩
  | (obtain⟨h1,h2,h3⟩:=h
     revert h3
     repeat' split
     all_goals intro h
     all_goals first
      |exact h.elim
      |exact⟨h1,h2,h.1,h.2.1,hm _ _ _ h.2.2⟩
      |exact⟨h1,h2,h.1,h.2.1,h.2.2.1,h.2.2.2.1,h.2.2.2.2.1,hm _ _ _ h.2.2.2.2.2⟩)
theorem aE5 {P:Program} {ssl:bD} {sso:aD} {snx:Nat} {ch:List (Nat×Bool)} {gc:Bool} {i:I} {K K':V->aD->Nat->Prop} (hm:∀a b c,K a b c->K' a b c)(h:dK P ssl sso snx ch gc i K):dK P ssl sso snx ch gc i K':=by
 have rd:∀i,dK P ssl sso snx ch gc i K->(∀K,dK P ssl sso snx ch gc i K=fU sso i (bZ ssl ch) gc λv=>K v sso snx)->dK P ssl sso snx ch gc i K':=by
  intro i h he
  rw [he] at h⊢
  exact aVQ (λv=>hm _ _ _) h
 have wr:∀i,dK P ssl sso snx ch gc i K->(∀K,dK P ssl sso snx ch gc i K=lG ssl sso snx ch gc i K)->dK P ssl sso snx ch gc i K':=by
  intro i h he
  rw [he] at h⊢
  unfold lG at h⊢
  cases ch with
  |nil=>exact aLT hm h
  |cons g r=>exact⟨λe=>aLT hm (h.1 e),λe=>hm _ _ _ (h.2 e)⟩
 have alt:∀f (args:List V),pU (qP P f args sso gc λv=>K v sso snx) ((gc=true->oO P f args sso snx K)/\(gc=false->K .any sso snx)) ((gc=true->rX P f args sso snx K)/\(gc=false->K .any sso snx)) ((gc=true->sG P f args sso snx K)/\(gc=false->K .any sso snx))->
  pU (qP P f args sso gc λv=>K' v sso snx) ((gc=true->oO P f args sso snx K')/\(gc=false->K' .any sso snx)) ((gc=true->rX P f args sso snx K')/\(gc=false->K' .any sso snx)) ((gc=true->sG P f args sso snx K')/\(gc=false->K' .any sso snx)):=by
  rintro f args (⟨res,h1,h2,h3⟩| ⟨h1,h2⟩| ⟨h1,h2⟩| ⟨h1,h2⟩)
  ·exact .inl ⟨res,h1,h2,hm _ _ _ h3⟩
  ·exact .inr ⟨λe=>by obtain⟨L,ob0,ob1,res,a1,a2,a3,a4,a5,a6⟩:=h1 e;exact⟨L,ob0,ob1,res,a1,a2,a3,a4,a5,hm _ _ _ a6⟩,λe=>hm _ _ _ (h2 e)⟩
  ·exact .frz ⟨λe=>by obtain⟨Fz,res,a1,a2,a3⟩:=h1 e;exact⟨Fz,res,a1,a2,hm _ _ _ a3⟩,λe=>hm _ _ _ (h2 e)⟩
  ·exact .mov ⟨λe=>by obtain⟨L,ob0,ob1,res,a1,a2,a3,a4,a5⟩:=h1 e;exact⟨L,ob0,ob1,res,a1,a2,a3,a4,hm _ _ _ a5⟩,λe=>hm _ _ _ (h2 e)⟩
 cases i with
 |pick c a b=>
  cases c with
  |c v=>exact rd _ h λ_=>rfl
  |t tc=>
   simp only [dK] at h⊢
   split at h
   ·split at h
    ·exact hm _ _ _ h
    ·split at h
     ·exact hm _ _ _ h
     ·exact hm _ _ _ h
   ·exact⟨h.1,hm _ _ _ h.2⟩
 |build z ps=>
  simp only [dK] at h⊢
  split at h
  ·exact⟨h.1,hm _ _ _ h.2⟩
  ·exact h.elim
 |call f xs=>exact alt _ _ h
 |vcall x xs=>
  simp only [dK] at h⊢
  split at h
  ·exact⟨h.1,alt _ _ h.2⟩
  ·exact⟨h.1,hm _ _ _ h.2⟩
 |clr a b c=>exact wr _ h λ_=>rfl
 |alloc z=>exact wr _ h λ_=>rfl
 |box z=>exact wr _ h λ_=>rfl
 |st a b c=>exact wr _ h λ_=>rfl
 |mkmap a=>exact wr _ h λ_=>rfl
 |mput a b c=>exact wr _ h λ_=>rfl
 |mputp a b c=>exact wr _ h λ_=>rfl
 |bslice a b c d=>exact wr _ h λ_=>rfl
 |mk a b c d e=>exact wr _ h λ_=>rfl
 |app a b c d=>exact wr _ h λ_=>rfl
 |cpy a b c=>exact wr _ h λ_=>rfl
 |s2b a=>exact wr _ h λ_=>rfl
 |aslc a b c=>exact wr _ h λ_=>rfl
 |cpys a b=>exact wr _ h λ_=>rfl
 |_=>exact rd _ h λ_=>rfl
def aML(e:A->V):I->List Nat
 | .st _ x _=>oX (e x)
 | .cpy _ x _=>oX (e x)
 | .cpys x _=>oX (e x)
 | .clr _ _ x=>oX (e x)
 | .mput x _ _=>oX (e x)
 | .mputp x _ _=>oX (e x)
 | .aslc _ x _=>oX (e x)
 | .app _ _ x _=>oX (e x)
 |_=> []
theorem aTV {v:V} {k off len:Nat} (h:uZ v=.sl k off len):oX v=[k]:=by
 cases v <;> simp [uZ] at h
 ·obtain⟨rfl,rfl,rfl⟩:=h;rfl
 ·obtain⟨rfl,rfl,rfl⟩:=h;rfl
theorem aRD {v:V} {k off len:Nat} (h:uZ v=.slx k off len):oX v=[k]:=by
 cases v <;> simp [uZ] at h
 obtain⟨rfl,rfl,rfl⟩:=h;rfl
theorem aLU {S0 S:aD} {m n:Nat} {i:I} {e:A->V} {v:V} (h:nZ S0 m i e λa b c=>a=v/\b=S/\c=n) {k:Nat} (hk:k≠m)(hc:k∉aML e i):S.get k=S0.get k:=by
 revert h
 unfold nZ
 repeat' split
 all_goals intro h
 all_goals first
  |exact h.elim
  | (obtain⟨-,rfl,-⟩:=h;simp [aD.get_set,aD.get_del,hk];done)
  | (obtain⟨-,-,rfl,-⟩:=h;simp [aD.get_set,aD.get_del,hk];done)
  | (obtain⟨-,-,-,-,-,rfl,-⟩:=h;simp [aD.get_set,aD.get_del,hk];done)
  | (obtain⟨-,-,rfl,-⟩:=h
     rename_i e1 _ _ _
     simp only [aML,e1,oX,aYE,zK] at hc
     simp [aD.get_set,aD.get_del,hc];done)
  |skip
 all_goals
  try exact h.2.2.elim
 all_goals
  have hc':k∉aML e _:=hc
  simp only [aML] at hc'
  first
   |rw [‹e _=V.ptr _ _ _›] at hc'
   |rw [‹e _=V.mp _›] at hc'
   |rw [aTV ‹uZ (e _)=V.sl _ _ _›] at hc'
   |rw [aRD ‹uZ (e _)=V.slx _ _ _›] at hc'
   |skip
  simp only [oX,aYE,zK] at hc'
  first
   | (obtain rfl:=h.2.2.1;simp [aD.get_set,aD.get_del,hk,hc'];done)
   | (obtain rfl:=h.2.2.2.1;simp [aD.get_set,aD.get_del,hk,hc'];done)
   | (obtain rfl:=h.2.2.2.2.1;simp [aD.get_set,aD.get_del,hk,hc'];done)
   | (obtain rfl:=h.2.2.2.2.2.1;simp [aD.get_set,aD.get_del,hk,hc'];done)
   | (obtain rfl:=h.2.2.2.2.2.2.2.2.1;simp [aD.get_set,aD.get_del,hk,hc'];done)
def eqL {α:Type} (f:α->α->Bool):List α->List α->Bool
 | [],[]=>true
 |x::r,y::q=>f x y&&eqL f r q
 |_,_=>false
theorem oG {α:Type} {f:α->α->Bool} (hf:∀x y,f x y=true->x=y):∀ {l m:List α},eqL f l m=true->l=m
 | [],[],_=>rfl
 |x::r,y::q,h=>by
  simp only [eqL,zC] at h
  rw [hf _ _ h.1,oG hf h.2]
 | [],_::_,h=>by cases h
 |_::_,[],h=>by cases h
def eqU(a b:UInt8):Bool:=Nat.beq a.toNat b.toNat
theorem bD6(a b:UInt8)(h:eqU a b=true):a=b:=UInt8.toNat_inj.1 (zA h)
def bGI(a b:ByteArray):Bool:=eqL eqU a.data.toList b.data.toList
theorem aY4(a b:ByteArray)(h:bGI a b=true):a=b:=by
 have :=oG bD6 h
 cases a;cases b
 congr 1
 exact Array.toList_inj.1 this
def eqV:Nat->V->V->Bool
 |0,_,_=>false
 |n+1,a,b=>match a,b with
  | .any,.any=>true
  | .int k x,.int k' y=>decide (k=k')&&decide (x=y)
  | .bool x,.bool y=>x==y
  | .str x,.str y=>bGI x y
  | .agg x,.agg y=>eqL (eqV n) x y
  | .tup x,.tup y=>eqL (eqV n) x y
  | .nil,.nil=>true
  | .ptr k i c,.ptr k' i' c'=>Nat.beq k k'&&(Nat.beq i i'&&Nat.beq c c')
  | .sl k i c,.sl k' i' c'=>Nat.beq k k'&&(Nat.beq i i'&&Nat.beq c c')
  | .lst e t x,.lst e' t' y=>Nat.beq e e'&&((t==t')&&eqL (eqL (eqV n)) x y)
  | .mp k,.mp k'=>Nat.beq k k'
  |_,_=>false
theorem uI:∀(n:Nat) (a b:V),eqV n a b=true->a=b
 |0,_,_,h=>by cases h
 |n+1,a,b,h=>by
  unfold eqV at h
  split at h <;>(try simp only [zC,decide_eq_true_eq,beq_iff_eq] at h)<;>(try cases h;done)
  ·rfl
  ·rw [h.1,h.2]
  ·rw [h]
  ·rw [aY4 _ _ h]
  ·rw [oG (uI n) h]
  ·rw [oG (uI n) h]
  ·rfl
  ·rw [zA h.1,zA h.2.1,zA h.2.2]
  ·rw [zA h.1,zA h.2.1,zA h.2.2]
  ·rw [zA h.1,h.2.1,oG (λx y=>oG (uI n)) h.2.2]
  ·rw [zA h]
def bD5:Option Obj->Option Obj->Bool
 |none,none=>true
 |some (.row e x),some (.row e' y)=>Nat.beq e e'&&eqL (eqL (eqV 12)) x y
 |some (.box x),some (.box y)=>eqL (eqV 12) x y
 |_,_=>false
theorem aY5 {a b:Option Obj} (h:bD5 a b=true):a=b:=by
 unfold bD5 at h
 split at h
 ·rfl
 ·rw [zC] at h
  rw [zA h.1,oG (λx y=>oG (uI 12)) h.2]
 ·rw [oG (uI 12) h]
 ·cases h
def aQ4(SO S1:aD)(W:List Nat):List Nat->Bool
 | []=>true
 |k::r=>(gP k W||bD5 (S1.get k) (SO.get k))&&aQ4 SO S1 W r
theorem aLG {SO S1:aD} {W:List Nat} :∀ {T:List Nat},aQ4 SO S1 W T=true->∀k∈T,k∉W->S1.get k=SO.get k
 | [],_,k,hk,_=>by cases hk
 |j::r,h,k,hk,hw=>by
  simp only [aQ4,zC,Bool.or_eq_true] at h
  rcases List.mem_cons.1 hk with rfl |hk
  ·rcases h.1 with h1 |h1
   ·exact absurd (gA.1 h1) hw
   ·exact aY5 h1
  ·exact aLG h.2 k hk hw
def bKO(i:I)(SO S1:aD)(W T:List Nat):Bool:=
 match i with
 | .call f _=>match gP f gH.ro with
   |true=>aQ4 SO S1 W T
   |false=>true
 |_=>true
abbrev Cx:=Nat->FuncId->List V->aD->Nat->(V->aD->Nat->Prop)->Prop
def aQN(P:Program)(cx:Cx):Prop:=∀d f args S m K,cx d f args S m K->∃v S' n',K v S' n'/\((S'=S/\n'=m/\∀K':V->Prop,K' v->qP P f args S true K')\/(n'=m+16/\∀K':V->aD->Nat->Prop,K' v S' n'->oO P f args S m K')\/(n'=m+1/\∀K':V->aD->Nat->Prop,K' v S' n'->rX P f args S m K')\/(n'=m+16/\∀K':V->aD->Nat->Prop,K' v S' n'->sG P f args S m K'))
def aAH(P:Program)(f:FuncId):Bool:=
 match P.funcs[f]? with
 |some fn=>fn.body.isSome&& !(fn.name== "runtime.NumGoroutine")
 |none=>false
theorem aHE {P:Program} {f:FuncId} (h:aAH P f=true):fY P f:=by
 unfold aAH at h
 split at h
 ·rename_i fn hf
  rw [zC,Bool.not_eq_true'] at h
  exact⟨fn,hf,h.1,h.2⟩
 ·cases h
def aTZ(P:Program)(cx:FuncId->List V->aD->Nat->(V->aD->Nat->Prop)->Prop)(ssl:bD)(sso:aD)(snx:Nat)(ch:List (Nat×Bool))(gc:Bool)(i:I)(K:V->aD->Nat->Prop):Prop:=
 match i with
 | .call f xs=>match gc with
   |true=>iL (xs.map (bZ ssl ch)) λa=>cx f a sso snx K
   |false=>K .any sso snx
 | .vcall x xs=>match bZ ssl ch x with
   | .fn f caps=>rq (aAH P f) (match gc with
     |true=>iL (xs.map (bZ ssl ch)++caps) λa=>cx f a sso snx K
     |false=>K .any sso snx)
   |_=>rq (!gc) (K .any sso snx)
 |i=>eU P ssl sso snx ch gc i K
def aE6:I->Bool
 | .call _ _=>true
 | .vcall _ _=>true
 |_=>false
theorem aKH {P:Program} {cx:Cx} (hcx:aQN P cx) {d:Nat} {ssl:bD} {sso:aD} {snx:Nat} {ch:List (Nat×Bool)} {gc:Bool} {i:I} {K:V->aD->Nat->Prop} (h:aTZ P (cx d) ssl sso snx ch gc i K):
 ∃v S n,K v S n/\dK P ssl sso snx ch gc i (λa b c=>a=v/\b=S/\c=n)/\(aE6 i=true->(S=sso/\n=snx)\/n=snx+16\/n=snx+1):=by
 have alt:∀f (a:List V),cx d f a sso snx K->∃v S n,K v S n/\pU (qP P f a sso true λv'=>v'=v/\sso=S/\snx=n) ((true=true->oO P f a sso snx λa b c=>a=v/\b=S/\c=n)/\(true=false->.any=v/\sso=S/\snx=n)) ((true=true->rX P f a sso snx λa b c=>a=v/\b=S/\c=n)/\(true=false->.any=v/\sso=S/\snx=n)) ((true=true->sG P f a sso snx λa b c=>a=v/\b=S/\c=n)/\(true=false->.any=v/\sso=S/\snx=n))/\((S=sso/\n=snx)\/n=snx+16\/n=snx+1):=by
  intro f a h
  obtain⟨v,S',n',hk,⟨rfl,rfl,h1⟩| ⟨h0,h1⟩| ⟨h0,h1⟩| ⟨h0,h1⟩⟩:=hcx d f a sso snx K h
  ·exact⟨v,_,_,hk,.inl (h1 _ ⟨rfl,rfl,rfl⟩),.inl ⟨rfl,rfl⟩⟩
  ·exact⟨v,S',n',hk,.inr ⟨λ_=>h1 _ ⟨rfl,rfl,rfl⟩,(by intro h;cases h)⟩,.inr (.inl h0)⟩
  ·exact⟨v,S',n',hk,.frz ⟨λ_=>h1 _ ⟨rfl,rfl,rfl⟩,(by intro h;cases h)⟩,.inr (.inr h0)⟩
  ·exact⟨v,S',n',hk,.mov ⟨λ_=>h1 _ ⟨rfl,rfl,rfl⟩,(by intro h;cases h)⟩,.inr (.inl h0)⟩
 have plain:eU P ssl sso snx ch gc i K->aE6 i=false->∃v S n,K v S n/\dK P ssl sso snx ch gc i (λa b c=>a=v/\b=S/\c=n)/\(aE6 i=true->(S=sso/\n=snx)\/n=snx+16\/n=snx+1):=by
  intro h hc
  rw [aHY] at h
  obtain⟨v,S,n,h1,h2⟩:=aKG (st:=⟨ssl,sso,snx⟩) h
  exact⟨v,S,n,h1,h2,λh=>by rw [hc] at h;cases h⟩
 cases i with
 |call f xs=>
  simp only [aTZ] at h
  cases gc with
  |true=>
   simp only [fE] at h
   obtain⟨v,S,n,h1,h2,h3⟩:=alt _ _ h
   exact⟨v,S,n,h1,h2,λ_=>h3⟩
  |false=>exact⟨_,_,_,h,.inr ⟨(by intro h;cases h),λ_=>⟨rfl,rfl,rfl⟩⟩,λ_=>.inl ⟨rfl,rfl⟩⟩
 |vcall x xs=>
  simp only [aTZ] at h
  split at h
  ·rename_i f caps hx
   rw [fN] at h
   obtain⟨hc,h⟩:=h
   have hc:=aHE hc
   cases gc with
   |true=>
    simp only [fE] at h
    obtain⟨v,S,n,h1,h2,h3⟩:=alt _ _ h
    refine⟨v,S,n,h1,?_,λ_=>h3⟩
    unfold dK
    dsimp only
    rw [hx]
    exact⟨hc,h2⟩
   |false=>
    refine⟨_,_,_,h,?_,λ_=>.inl ⟨rfl,rfl⟩⟩
    unfold dK
    dsimp only
    rw [hx]
    exact⟨hc,.inr ⟨(by intro h;cases h),λ_=>⟨rfl,rfl,rfl⟩⟩⟩
  ·rename_i hx
   rw [aNX] at h
   refine⟨_,_,_,h.2,?_,λ_=>.inl ⟨rfl,rfl⟩⟩
   unfold dK
   dsimp only
   split
   ·rename_i f caps e;exact absurd e (hx f caps)
   ·exact⟨h.1,rfl,rfl,rfl⟩
 |_=>exact plain h rfl
def aZ5(P:Program)(cx:Cx):List pV->St->(St->Prop)->Prop
 | [],st,K=>K st
 | ⟨d,g,i⟩::r,⟨ssl,sso,snx⟩,K=>rZ ssl g λch gc=>aTZ P (cx (d.getD 0)) ssl sso snx ch gc i λv S n=>lY v λv=>dG S λS=>cP 64 0 n λn=>aEV ssl d ⟨ch,gc,v⟩ λsl=>aZ5 P cx r ⟨sl,S,n⟩ K
theorem aL2 {P:Program} {cx:Cx} (hcx:aQN P cx):∀(l:List pV) (st:St) (K:St->Prop),aZ5 P cx l st K->∃st',K st'/\∀K':St->Prop,K' st'->vU P l st K'
 | [],st,K,h=>⟨st,h,λ_ h=>h⟩
 | ⟨d,g,i⟩::r,⟨ssl,sso,snx⟩,K,h=>by
   simp only [aZ5,oV] at h
   simp only [vU]
   cases hg:guardOf ssl g with
   |none=>rw [hg] at h;exact h.elim
   |some p=>
    obtain⟨ch,gc⟩:=p
    rw [hg] at h
    obtain⟨v,S,n,h1,h2,-⟩:=aKH hcx h
    simp only [gZ,eM,eF,sL] at h1
    obtain⟨st',h3,h4⟩:=aL2 hcx r _ K h1
    refine⟨st',h3,λK' hK'=>?_⟩
    refine aE5 (λa b c e=>?_) h2
    obtain⟨rfl,rfl,rfl⟩:=e
    exact h4 K' hK'
theorem aN8 {P:Program} {ssl:bD} {sso S:aD} {m n:Nat} {ch:List (Nat×Bool)} {gc:Bool} {i:I} {v:V} (h:dK P ssl sso m ch gc i λa b c=>a=v/\b=S/\c=n)(hi:aE6 i=false) {k:Nat} (hk:k≠m)(hc:k∉aML (bZ ssl ch) i):S.get k=sso.get k:=by
 have rd:∀i,dK P ssl sso m ch gc i (λa b c=>a=v/\b=S/\c=n)->(∀K,dK P ssl sso m ch gc i K=fU sso i (bZ ssl ch) gc λv=>K v sso m)->S.get k=sso.get k:=by
  intro i h he
  rw [he] at h
  obtain⟨u,h1,-⟩:=aID h
  obtain⟨-,rfl,-⟩:=h1
  rfl
 have wr:∀i,dK P ssl sso m ch gc i (λa b c=>a=v/\b=S/\c=n)->(∀K,dK P ssl sso m ch gc i K=lG ssl sso m ch gc i K)->k∉aML (bZ ssl ch) i->S.get k=sso.get k:=by
  intro i h he hc
  rw [he] at h
  unfold lG at h
  cases ch with
  |nil=>exact aLU h hk hc
  |cons g r=>
   cases gc with
   |true=>exact aLU (h.1 rfl) hk hc
   |false=>obtain⟨-,rfl,-⟩:=h.2 rfl;rfl
 cases i with
 |pick c a b=>
  cases c with
  |c v=>exact rd _ h λ_=>rfl
  |t tc=>
   simp only [dK] at h
   split at h
   ·split at h
    ·obtain⟨-,rfl,-⟩:=h;rfl
    ·split at h
     ·obtain⟨-,rfl,-⟩:=h;rfl
     ·obtain⟨-,rfl,-⟩:=h;rfl
   ·obtain⟨-,-,rfl,-⟩:=h;rfl
 |build z ps=>
  simp only [dK] at h
  split at h
  ·obtain⟨-,-,rfl,-⟩:=h;rfl
  ·exact h.elim
 |call f xs=>cases hi
 |vcall x xs=>cases hi
 |clr a b c=>exact wr _ h (λ_=>rfl) hc
 |alloc z=>exact wr _ h (λ_=>rfl) hc
 |box z=>exact wr _ h (λ_=>rfl) hc
 |st a b c=>exact wr _ h (λ_=>rfl) hc
 |mkmap a=>exact wr _ h (λ_=>rfl) hc
 |mput a b c=>exact wr _ h (λ_=>rfl) hc
 |mputp a b c=>exact wr _ h (λ_=>rfl) hc
 |bslice a b c d=>exact wr _ h (λ_=>rfl) hc
 |mk a b c d e=>exact wr _ h (λ_=>rfl) hc
 |app a b c d=>exact wr _ h (λ_=>rfl) hc
 |cpy a b c=>exact wr _ h (λ_=>rfl) hc
 |s2b a=>exact wr _ h (λ_=>rfl) hc
 |aslc a b c=>exact wr _ h (λ_=>rfl) hc
 |cpys a b=>exact wr _ h (λ_=>rfl) hc
 |_=>exact rd _ h λ_=>rfl
theorem sP {SO S1:aD} {W:List Nat} {K:Prop} (hK:K):∀ {T:List Nat},(∀k∈T,k∉W->S1.get k=SO.get k)->aCA SO S1 W K T
 | [],_=>hK
 |k::r,h=>by
  simp only [aCA]
  split
  ·exact sP hK λj hj=>h j (zI _ hj)
  ·rename_i hn
   exact⟨h k (by simp) (λhm=>by rw [gA.2 hm] at hn;cases hn),sP hK λj hj=>h j (zI _ hj)⟩
def aTA(P:Program)(cx:Cx):St->Nat->Option Nat->Option (Nat×Bool)->I->(Rec->St->Prop)->Prop
 | ⟨ssl,sso,snx⟩,m,d,g,i,K=>
 cS (gsl g++aLQ i) λrds=>qF (look ssl rds) λSL=>rZ SL g λch gc=>cS (sB i SL sso) λT=>dG (iC sso T) λSO=>cS (gsl g++chs SL) λG=>
  aTZ P (cx (d.getD 0)) SL SO m ch gc i λv S1 n1=>lY v λv=>dG S1 λS1=>cS (wrI SL T m n1 i) λW=>cS (W++aEF m S1) λids=>
   rq ((aAU T m S1&&(sH d G&&(aDE (m+16) ids&&(aFJ W T&&(aFJ (chT ch) G&&(aDH m T&&Nat.ble n1 (m+16)))))))&&(aFJ (aML (bZ SL ch) i) W&&bKO i SO S1 W T))
   (aEV ssl d ⟨ch,gc,v⟩ λsl=>dG (vW sso S1 ids) λso=>K ⟨m,rds++G,chT ch,d,⟨ch,gc,v⟩,T,ids,S1⟩ ⟨sl,so,snx⟩)
def aJY(P:Program)(cx:Cx):List pV->List Nat->St->(List Rec->St->Prop)->Prop
 | [],[],st,K=>K [] st
 | ⟨d,g,i⟩::r,m::ms,st,K=>aTA P cx st m d g i λrc st'=>aJY P cx r ms st' λrs st''=>K (rc::rs) st''
 |_,_,_,_=>False
theorem aR1 {P:Program} {cx:Cx} (hcx:aQN P cx):∀(st:St) (m:Nat) (d:Option Nat) (g:Option (Nat×Bool)) (i:I) (K:Rec->St->Prop),aTA P cx st m d g i K->∃rc st',K rc st'/\∀K':Rec->St->Prop,K' rc st'->aDR P st m d g i K'
 | ⟨ssl,sso,snx⟩,m,d,g,i,K,h=>by
   simp only [aTA,fD,lX,oV,eM] at h
   simp only [aDR,fD,lX,oV,eM]
   generalize hSL:look ssl (gsl g++aLQ i)=SL at h⊢
   cases hg:guardOf SL g with
   |none=>rw [hg] at h;exact h.elim
   |some p=>
    obtain⟨ch,gc⟩:=p
    rw [hg] at h
    dsimp only at h⊢
    obtain⟨v,S1,n1,h1,h2,h3⟩:=aKH hcx h
    simp only [gZ,fN,zC,sL] at h1
    obtain⟨⟨⟨a1,a2,a3,a4,a5,a6,a7⟩,a8,a9⟩,hkK⟩:=h1
    refine⟨_,_,hkK,λK' hK'=>?_⟩
    refine aE5 (λa b c e=>?_) h2
    obtain⟨rfl,rfl,rfl⟩:=e
    simp only [gZ,zC,sL]
    refine⟨⟨a1,a2,a3,a4,a5,a6,a7⟩,sP hK' λk hk hw=>?_⟩
    have hkm:k≠m:=λe=>uF a6 k hk ⟨by omega,by omega⟩
    cases hc:aE6 i with
    |false=>exact aN8 h2 hc hkm λhm=>hw (lO a8 k hm)
    |true=>
     have go:∀j,c=m+(j+1)->b.get k=(iC sso (sB i SL sso)).get k:=by
      intro j e
      have hb:Nat.beq (m+(j+1)) m=false:=by
       cases hq:Nat.beq (m+(j+1)) m with
       |false=>rfl
       |true=>have :=zA hq;omega
      subst e
      cases i <;> try(cases hc;done)
      ·rename_i f xs
       cases hr:gP f gH.ro with
       |true=>
        simp only [bKO,hr] at a9
        exact aLG a9 k hk hw
       |false=>
        exfalso
        apply hw
        simp only [wrI,hb,hr];exact hk
      ·exfalso
       apply hw
       simp only [wrI,hb];exact hk
     rcases h3 hc with ⟨e,-⟩|e |e
     ·rw [e]
     ·exact go 15 e
     ·exact go 0 e
theorem aAK {P:Program} {cx:Cx} (hcx:aQN P cx):∀(l:List pV) (ms:List Nat) (st:St) (K:List Rec->St->Prop),aJY P cx l ms st K->∃rs st',K rs st'/\∀K':List Rec->St->Prop,K' rs st'->nD P l ms st K'
 | [],[],st,K,h=>⟨_,_,h,λ_ h=>h⟩
 | [],_::_,st,K,h=>h.elim
 | ⟨d,g,i⟩::r,[],st,K,h=>h.elim
 | ⟨d,g,i⟩::r,m::ms,st,K,h=>by
   simp only [aJY] at h
   simp only [nD]
   obtain⟨rc,st',h1,h2⟩:=aR1 hcx _ _ _ _ _ _ h
   obtain⟨rs,st'',h3,h4⟩:=aAK hcx r ms st' _ h1
   exact⟨rc::rs,st'',h3,λK' hK'=>h2 _ (h4 _ hK')⟩
def ul:RC->RC
 | .seq a b=>.seq (ul a) (ul b)
 | .cond c a b=>.cond c (ul a) (ul b)
 | .block id a=>.block id (ul a)
 | .loop a=>.uloop (ul a)
 | .uloop a=>.uloop (ul a)
 |rc=>rc
theorem gU:∀rc:RC,strip (ul rc)=strip rc
 | .seq a b=>by simp only [ul,strip,gU a,gU b]
 | .cond c a b=>by simp only [ul,strip,gU a,gU b]
 | .block id a=>by simp only [ul,strip,gU a]
 | .loop a=>by simp only [ul,strip,gU a]
 | .uloop a=>by simp only [ul,strip,gU a]
 | .skip=>rfl
 | .reg _ _=>rfl
 | .dreg .. =>rfl
 | .cut _ _=>rfl
 | .regc .. =>rfl
 | .regv .. =>rfl
 | .exit _=>rfl
 | .ret=>rfl
 | .bad=>rfl
def lU(P:Program)(cx:Cx)(lf:Nat):RC->St->(Ex->St->Prop)->Prop
 | .skip,st,K=>K .normal st
 | .reg l kill,st,K=>aZ5 P cx l st λ| ⟨sl0,so0,nx0⟩=>fC kill sl0 λsl=>K .normal ⟨sl,so0,nx0⟩
 | .dreg b0 n l kill an ms,st,K=>match Nat.ble st.nx b0 with
   |true=>aJY P cx l ms ⟨st.sl,st.so,n⟩ λ|recs,⟨sl0,so0,nx0⟩=>rq (nC recs an 0)<|fC kill (look sl0 (qY sl0)) λsl=>K .normal ⟨sl,so0,nx0⟩
   |false=>aJY P cx l (shM st.nx ms) ⟨st.sl,st.so,n+st.nx⟩ λ|recs,⟨sl0,so0,nx0⟩=>rq (nC recs an 0)<|fC kill (look sl0 (qY sl0)) λsl=>K .normal ⟨sl,so0,nx0⟩
 | .seq a b,st,K=>lU P cx lf a st λe st'=>match e with
   | .normal=>lU P cx lf b st' K
   | .exit id=>K (.exit id) st'
   | .ret=>K .ret st'
 | .cond c a b,st,K=>match bZ st.sl [] c with
   | .bool x=>cq x (lU P cx lf a st K) (lU P cx lf b st K)
   |_=>False
 | .block id c,st,K=>lU P cx lf c st λe st'=>match e with
   | .exit j=>match Nat.beq j id with
     |true=>K .normal st'
     |false=>K (.exit j) st'
   | .normal=>K .normal st'
   | .ret=>K .ret st'
 | .loop c,st,K=>uA (lU P cx lf c) K lf st
 | .uloop c,st,K=>uA (lU P cx lf c) K lf st
 | .exit id,st,K=>K (.exit id) st
 | .ret,st,K=>K .ret st
 |_,_,_=>False
def bG2(f g:St->(Ex->St->Prop)->Prop):Prop:=∀st K,f st K->∃e st',K e st'/\∀K':Ex->St->Prop,K' e st'->g st K'
theorem aE7 {f g:St->(Ex->St->Prop)->Prop} (h:bG2 f g):∀(n:Nat) (st:St) (K:Ex->St->Prop),uA f K n st->∃e st',K e st'/\∀K':Ex->St->Prop,K' e st'->∃n',uA g K' n' st
 |0,_,_,hi=>hi.elim
 |n+1,st,K,hi=>by
  obtain⟨e,st',h1,h2⟩:=h st _ hi
  cases e with
  |normal=>
   obtain⟨e2,st2,h3,h4⟩:=aE7 h n st' K h1
   refine⟨e2,st2,h3,λK' hK'=>?_⟩
   obtain⟨n',h5⟩:=h4 K' hK'
   exact⟨n'+1,h2 _ h5⟩
  |exit id=>exact⟨_,_,h1,λK' hK'=>⟨1,h2 _ hK'⟩⟩
  |ret=>exact⟨_,_,h1,λK' hK'=>⟨1,h2 _ hK'⟩⟩
theorem sZ {P:Program} {cx:Cx} (hcx:aQN P cx)(lf n0:Nat):∀rc:RC,bG2 (lU P cx lf rc) (dJ P n0 (ul rc)):=by
 intro rc
 induction rc with
 |skip=>intro st K h;exact⟨_,_,h,λ_ h=>h⟩
 |exit id=>intro st K h;exact⟨_,_,h,λ_ h=>h⟩
 |ret=>intro st K h;exact⟨_,_,h,λ_ h=>h⟩
 |reg l kill=>
  intro st K h
  simp only [lU,gY] at h
  obtain⟨⟨sl0,so0,nx0⟩,h1,h2⟩:=aL2 hcx l st _ h
  exact⟨_,_,h1,λK' hK'=>h2 _ hK'⟩
 |dreg b0 n l kill an ms=>
  intro st K h
  simp only [lU,gY,fN] at h
  split at h
  ·rename_i hb
   obtain⟨rs,⟨sl0,so0,nx0⟩,h1,h2⟩:=aAK hcx l ms _ _ h
   exact⟨_,_,h1.2,λK' hK'=>by simp only [ul,dJ,hb];exact h2 _ ⟨h1.1,hK'⟩⟩
  ·rename_i hb
   obtain⟨rs,⟨sl0,so0,nx0⟩,h1,h2⟩:=aAK hcx l _ _ _ h
   exact⟨_,_,h1.2,λK' hK'=>by simp only [ul,dJ,hb];exact h2 _ ⟨h1.1,hK'⟩⟩
 |seq a b iha ihb=>
  intro st K h
  obtain⟨e,st',h1,h2⟩:=iha st _ h
  cases e with
  |normal=>
   obtain⟨e2,st2,h3,h4⟩:=ihb st' K h1
   exact⟨e2,st2,h3,λK' hK'=>h2 _ (h4 _ hK')⟩
  |exit id=>exact⟨_,_,h1,λK' hK'=>h2 _ hK'⟩
  |ret=>exact⟨_,_,h1,λK' hK'=>h2 _ hK'⟩
 |cond c a b iha ihb=>
  intro st K h
  simp only [lU] at h
  split at h
  ·rename_i x hx
   cases x with
   |true=>
    obtain⟨e,st',h1,h2⟩:=iha st K h
    refine⟨e,st',h1,λK' hK'=>?_⟩
    simp only [ul,dJ,hx]
    exact⟨λ_=>h2 _ hK',(by intro h;cases h)⟩
   |false=>
    obtain⟨e,st',h1,h2⟩:=ihb st K h
    refine⟨e,st',h1,λK' hK'=>?_⟩
    simp only [ul,dJ,hx]
    exact⟨(by intro h;cases h),λ_=>h2 _ hK'⟩
  ·exact h.elim
 |block id c ih=>
  intro st K h
  obtain⟨e,st',h1,h2⟩:=ih st _ h
  cases e with
  |normal=>exact⟨_,_,h1,λK' hK'=>h2 _ hK'⟩
  |ret=>exact⟨_,_,h1,λK' hK'=>h2 _ hK'⟩
  |exit j=>
   dsimp only at h1
   split at h1
   ·rename_i hj
    exact⟨_,_,h1,λK' hK'=>h2 _ (by show if j=id then K' .normal st' else K' (.exit j) st';rw [if_pos (zA hj)];exact hK')⟩
   ·rename_i hj
    exact⟨_,_,h1,λK' hK'=>h2 _ (by show if j=id then K' .normal st' else K' (.exit j) st';rw [if_neg (Nat.ne_of_beq_eq_false hj)];exact hK')⟩
 |loop c ih=>intro st K h;exact aE7 ih lf st K h
 |uloop c ih=>intro st K h;exact aE7 ih lf st K h
 |_=>intro st K h;exact h.elim
end Go.Sk
namespace Go.Sk
open Go Go.RowKit
variable [gH]
structure En(P:Program) where
 ext:Bool->FuncId->List Obj->List V->Option (V×List Obj)
 hext:∀own f ob0 args v ob1,ext own f ob0 args=some (v,ob1)->aM P f ob0 args v ob1
 qg:Option FuncId
 hq:∀g,qg=some g->Quiet P g
 md:FuncId->Nat->FuncId->Nat
 lf:Nat
 fz:FuncId->List Nat
abbrev aXA:=Nat->FuncId->List Obj->List V->(V->List Obj->Prop)->Prop
def FnB(P:Program)(md:Nat)(f:FuncId)(ob0:List Obj)(args:List V)(res:V)(ob1:List Obj):Prop:=
 match md with
 |3=>FnM P f ob0 args res ob1
 |_=>aM P f ob0 args res ob1
def bAD(P:Program)(run:aXA):Prop:=∀md f ob0 a K,run md f ob0 a K->∃res ob1,K res ob1/\FnB P md f ob0 a res ob1
def aFP {P:Program} (E:En P)(run:aXA)(caller:FuncId):Cx:=λd f args S m K=>
 match E.md caller d f with
 |1=>cS (aKM S args) λL=>match qK S L L with
  |some ob0=>kK ob0 λob0=>iL (args.map (arg2 L)) λa=>run 1 f ob0 a λres ob1=>rq (jW L&&(Nat.ble L.length ob1.length&&Nat.ble ob1.length (L.length+16))) (K (aCQ L m res) (mN S L (ob1.map (mL L m)) m) (m+16))
  |none=>False
 |2=>cS (aUD args []) λL=>rq (args.all (puB S)&&args.all (aFN L))<|iL (args.map (pur S)) λa=>run 0 f [] a λres ob1=>match ob1 with
  | []=>K res (jG S L) (m+1)
  |_::_=>False
 |3=>cS (aKM S args) λL=>match qK S L L with
  |some ob0=>kK ob0 λob0=>iL (args.map (arg2 L)) λa=>run 3 f ob0 a λres ob1=>rq (jW L&&Nat.ble ob1.length 16) (K (aCQ [] m res) (mN (jG S L) [] (ob1.map (mL [] m)) m) (m+16))
  |none=>False
 |_=>rq (args.all (puB S))<|iL (args.map (pur S)) λa=>run 0 f [] a λres ob1=>match ob1 with
  | []=>rq (args.all aGI||aBG res) (K res S m)
  |_::_=>False
theorem aK7 {S:aD} {L:List Nat} :∀ {l:List V},l.all (puB S)=true->l.all (aFN L)=true->aK6 S L l
 | [],_,_=>trivial
 |v::r,h1,h2=>by
  simp only [List.all_cons,zC] at h1 h2
  exact⟨⟨aVL h1.1,h2.1⟩,aK7 h1.2 h2.2⟩
theorem aT3 {P:Program} (E:En P) {run:aXA} (hr:bAD P run)(caller:FuncId):aQN P (aFP E run caller):=by
 intro d f args S m K h
 simp only [aFP] at h
 split at h
 ·simp only [fD] at h
  split at h
  ·rename_i ob0 hob
   simp only [qE,fE] at h
   obtain⟨res,ob1,h1,h2⟩:=hr _ _ _ _ _ h
   simp only [fN,zC] at h1
   obtain⟨⟨hn,hl1,hl2⟩,hk⟩:=h1
   exact⟨_,_,_,hk,.inr (.inl ⟨rfl,λK' hK'=>⟨_,ob0,ob1,res,h2,mF hob,hn,hl1,hl2,hK'⟩⟩)⟩
  ·exact h.elim
 ·simp only [fD,fN,fE,zC] at h
  obtain⟨⟨hp,hq⟩,h⟩:=h
  obtain⟨res,ob1,h1,h2⟩:=hr _ _ _ _ _ h
  cases ob1 with
  |cons o r=>exact h1.elim
  |nil=>exact⟨_,_,_,h1,.inr (.inr (.inl ⟨rfl,λK' hK'=>⟨_,res,h2,aK7 hp hq,hK'⟩⟩))⟩
 ·simp only [fD] at h
  split at h
  ·rename_i ob0 hob
   simp only [qE,fE] at h
   obtain⟨res,ob1,h1,h2⟩:=hr _ _ _ _ _ h
   simp only [fN,zC] at h1
   obtain⟨⟨hn,hl⟩,hk⟩:=h1
   exact⟨_,_,_,hk,.inr (.inr (.inr ⟨rfl,λK' hK'=>⟨_,ob0,ob1,res,h2,mF hob,hn,hl,hK'⟩⟩))⟩
  ·exact h.elim
 ·simp only [fN,fE] at h
  obtain⟨hp,h⟩:=h
  obtain⟨res,ob1,h1,h2⟩:=hr _ _ _ _ _ h
  cases ob1 with
  |cons o r=>exact h1.elim
  |nil=>
   dsimp only at h1
   rw [Bool.or_eq_true] at h1
   exact⟨_,_,_,h1.2,.inl ⟨rfl,rfl,λK' hK'=>⟨res,λ_=>⟨λv hv=>aVL (List.all_eq_true.1 hp v hv),h2⟩,h1.1,hK'⟩⟩⟩
def aZS(n0:Nat)(own:Bool)(dp:List Nat)(rvs:List RV)(K:V->List Obj->Prop)(e:Ex)(st:St):Prop:=
 match e with
 | .normal=>aX4 n0 own dp rvs K st
 | .ret=>aX4 n0 own dp rvs K st
 | .exit _=>False
theorem aIL {P:Program} {n0:Nat} {own:Bool} {dp:List Nat} {rvs:List RV} {K:V->List Obj->Prop} {e:Ex} {st:St} (h:aZS n0 own dp rvs K e st):∃res ob1,K res ob1/\gG P n0 rvs res ob1 e st:=by
 cases e with
 |normal=>exact aOB h
 |ret=>exact aOB h
 |exit id=>exact h.elim
def bND(f:St->Prop)(e:Ex)(st:St):Prop:=
 match e with
 | .normal=>f st
 | .exit _=>False
 | .ret=>False
def bK0(a b:Option Nat):Bool:=
 match a,b with
 |some a,some b=>Nat.beq a b
 |_,_=>false
def aFH {P:Program} (E:En P):Nat->aXA
 |0=>λ_ _ _ _ _=>False
 |n+1=>λmd f ob0 args K=>match(match md with |3=>none |_=>E.ext (Nat.beq md 1) f ob0 args) with
  |some (v,ob1)=>iL [v] λl=>match l with |v::_=>kK ob1 λob1=>K v ob1 | []=>False
  |none=>match P.funcs[f]? with
   |some fn=>match fn.body,fn.results.toList.mapM (jO P) with
    |some c,some rvs=>rq (Nat.ble args.length fn.ntmps)<|cP 16 0 ob0.length λn0=>match aJV P c with
     |some (ca,o,g,cb)=>rq (bK0 (some g) E.qg&& !Nat.beq md 3)<|match aLC P fn.ntmps (kM rvs) [] ca cb with
      |some (ra,rb)=>lU P (aFP E (aFH E n) f) E.lf ra ⟨fF 0 args,aN 0 ob0,n0⟩ (bND λst=>lU P (aFP E (aFH E n) f) E.lf rb st (aZS n0 (Nat.beq md 1) (E.fz f) rvs K))
      |none=>False
     |none=>match aIJ P fn.ntmps (kM rvs) [] c with
      |some rc=>match md with
       |3=>lU P (aFP E (aFH E n) f) E.lf rc ⟨fF 0 args,aN 0 ob0,n0⟩ (aZS 0 true (E.fz f) rvs K)
       |_=>lU P (aFP E (aFH E n) f) E.lf rc ⟨fF 0 args,aN 0 ob0,n0⟩ (aZS n0 (Nat.beq md 1) (E.fz f) rvs K)
      |none=>False
    |_,_=>False
   |none=>False
theorem aM8 {P:Program} {md:Nat} {f:FuncId} {ob0 ob1:List Obj} {args:List V} {res:V} (hm:md≠3)(h:aM P f ob0 args res ob1):FnB P md f ob0 args res ob1:=by
 unfold FnB
 split
 ·exact absurd rfl hm
 ·exact h
theorem aIM {P:Program} (E:En P):∀n,bAD P (aFH E n)
 |0=>λ_ _ _ _ _ h=>h.elim
 |n+1=>by
  intro md f ob0 args K h
  have hcx:=aT3 E (aIM E n) f
  simp only [aFH] at h
  split at h
  ·rename_i v ob1 he
   simp only [fE,qE] at h
   split at he
   ·cases he
   ·rename_i hm
    exact⟨v,ob1,h,aM8 (λe=>hm e) (E.hext _ _ _ _ _ _ he)⟩
  ·split at h
   ·rename_i fn hf
    split at h
    ·rename_i c rvs hb hrv
     rw [fN,eF] at h
     obtain⟨hn,h⟩:=h
     have hb0:fn.body.isSome=true:=by rw [hb];rfl
     have hg:fn.body.getD .skip=c:=by rw [hb];rfl
     split at h
     ·rename_i ca o g cb hd
      rw [fN,zC] at h
      obtain⟨⟨hq,hm⟩,h⟩:=h
      have hm:md≠3:=λe=>by subst e;cases hm
      have hq:E.qg=some g:=by
       cases hE:E.qg with
       |none=>rw [hE] at hq;cases hq
       |some g'=>rw [hE] at hq;rw [zA (show Nat.beq g g'=true from hq)]
      split at h
      ·rename_i ra rb hres
       obtain⟨s1,s2⟩:=aC7 hres
       obtain⟨e,st',h1,h2⟩:=sZ hcx E.lf ob0.length ra _ _ h
       cases e with
       |exit id=>exact h1.elim
       |ret=>exact h1.elim
       |normal=>
        obtain⟨e2,st2,h3,h4⟩:=sZ hcx E.lf ob0.length rb _ _ h1
        obtain⟨res,ob1,h5,h6⟩:=aIL (P:=P) h3
        exact⟨res,ob1,h5,aM8 hm (aOR hf hb0 (by rw [hg];exact hd) (E.hq g hq) (by rw [gU];exact s1) (by rw [gU];exact s2) hrv (zE hn) (h2 _ (h4 _ h6)))⟩
      ·exact h.elim
     ·split at h
      ·rename_i rc hres
       split at h
       ·obtain⟨e,st',h1,h2⟩:=sZ hcx E.lf 0 rc _ _ h
        obtain⟨res,ob1,h5,h6⟩:=aIL (P:=P) h1
        exact⟨res,ob1,h5,aTL hf hb0 (by rw [gU,hg];exact qQ hres) hrv (zE hn) (h2 _ h6)⟩
       ·rename_i hm
        obtain⟨e,st',h1,h2⟩:=sZ hcx E.lf ob0.length rc _ _ h
        obtain⟨res,ob1,h5,h6⟩:=aIL (P:=P) h1
        exact⟨res,ob1,h5,aM8 (λe=>hm e) (bAI hf hb0 (by rw [gU,hg];exact qQ hres) hrv (zE hn) (h2 _ h6))⟩
      ·exact h.elim
    ·exact h.elim
   ·exact h.elim
def isTrue(v:V)(obs:List Obj):Prop:=
 match v,obs with
 | .bool true,[]=>True
 |_,_=>False
theorem aLF {P:Program} (E:En P)(n:Nat) {f:FuncId} {args:List V} (h:aFH E n 0 f [] args isTrue=True):aM P f [] args (.bool true) []:=by
 have h:aFH E n 0 f [] args isTrue:=by rw [h];trivial
 obtain⟨res,ob1,h1,h2⟩:=aIM E n _ _ _ _ _ h
 unfold isTrue at h1
 split at h1
 ·exact h2
 ·exact h1.elim
def isEq(u v:V)(obs:List Obj):Prop:=
 match obs with
 | []=>match eqV 12 u v with
   |true=>True
   |false=>False
 |_::_=>False
theorem run_eq {P:Program} (E:En P)(n:Nat) {f:FuncId} {args:List V} {v:V} (h:aFH E n 0 f [] args (isEq v)=True):aM P f [] args v []:=by
 have h:aFH E n 0 f [] args (isEq v):=by rw [h];trivial
 obtain⟨res,ob1,h1,h2⟩:=aIM E n _ _ _ _ _ h
 unfold isEq at h1
 split at h1
 ·split at h1
  ·rename_i he
   rw [uI 12 _ _ he]
   exact h2
  ·exact h1.elim
 ·exact h1.elim
end Go.Sk
namespace Go.Sk
open Go Go.RowKit
variable [gH]
def uY(x y:V):Prop:=∀(O:Nat->Prop) (w:World) (σ:Sg) (v:Value),VR O w σ x v->VR O w σ y v
theorem uY.refl(v:V):uY v v:=λ_ _ _ _ h=>h
theorem VR.le {O:Nat->Prop} {w:World} {σ:Sg} {x y:V} {v:Value} (hv:VR O w σ x v)(h:uY x y):VR O w σ y v:=h O w σ v hv
def kN(xs ys:List V):Prop:=xs.length=ys.length/\∀(c:Nat) (u v:V),xs[c]? =some u->ys[c]? =some v->uY u v
theorem kN.refl(xs:List V):kN xs xs:=⟨rfl,λc u v hu hv=>by rw [hu] at hv;obtain rfl:=Option.some.inj hv;exact .refl u⟩
theorem kN.nil:kN [] []:=.refl []
theorem kN.cons {x y:V} {xs ys:List V} (h:uY x y)(hs:kN xs ys):kN (x::xs) (y::ys):=by
 refine⟨by simp [hs.1],λc u v hu hv=>?_⟩
 cases c with
 |zero=>
  simp only [zH,Option.some.injEq] at hu hv
  subst hu hv;exact h
 |succ c=>exact hs.2 c u v (by simpa using hu) (by simpa using hv)
theorem kN.get {xs ys:List V} (h:kN xs ys)(i:Nat)(y:V)(hy:ys[i]? =some y):∃x,xs[i]? =some x/\uY x y:=by
 obtain⟨hi,-⟩:=List.getElem?_eq_some_iff.1 hy
 have hx:=zD (l:=xs) (i:=i) (by rw [h.1];exact hi)
 exact⟨_,hx,h.2 i _ y hx hy⟩
theorem uY.lst {es es':Nat} {t t':Bool} {xs ys:List (List V)} (he:es'=es\/xs=[])(ht:t=true->t'=true)(hl:xs.length=ys.length)
 (h:∀(i:Nat) (x y:List V),xs[i]? =some x->ys[i]? =some y->kN x y):uY (.lst es' t' xs) (.lst es t ys):=by
 intro O w σ v hv
 cases hv with
 | @lst _ _ _ _ a cap b o cv ha hes hcap ht' hc1 hc3 hc2=>
   have hy:∀(i:Nat) (y:List V),ys[i]? =some y->∃x,xs[i]? =some x/\i<xs.length:=λi y hy=>by
    obtain⟨hi,-⟩:=List.getElem?_eq_some_iff.1 hy
    have :=zD (l:=xs) (i:=i) (by omega)
    exact⟨_,this,by omega⟩
   rcases he with rfl |rfl
   ·rw [hl]
    refine .lst b o cv (λhne=>ha (λe=>hne (List.length_eq_zero_iff.1 (by rw [<-hl,e];rfl)))) (λy hy'=>?_) (by omega) (λhh=>by rw [<-hl];exact ht' (ht hh)) (λi c hi hc=>hc1 i c (by omega) hc) (λi c hi hc=>hc3 i c (by omega) hc) λi y c v' hy' hv'=>?_
    ·obtain⟨i,hi⟩:=zJ hy'
     obtain⟨x,hx,-⟩:=hy i y hi
     rw [<-(h i x y hx hi).1];exact hes x (zF hx)
    ·obtain⟨x,hx,-⟩:=hy i y hy'
     obtain⟨u,hu,hle⟩:=(h i x y hx hy').get c v' hv'
     exact(hc2 i x c u hx hu).le hle
   ·obtain rfl:ys=[]:=List.length_eq_zero_iff.1 (by rw [<-hl];rfl)
    exact .lst (xs:= []) b o cv (by simp) (by simp) hcap (λhh=>ht' (ht hh)) (by simp) (by simp) (by simp)
theorem uY.aggs {xs ys:List V} (h:kN xs ys):uY (.agg xs) (.agg ys):=λO w σ v hv=>by
 cases hv with
 |agg hn hc=>
  refine .agg (by rw [hn,h.1]) λi y u hy hu=>?_
  obtain⟨x,hx,hle⟩:=h.get i y hy
  exact(hc i x u hx hu).le hle
theorem uY.tups {xs ys:List V} (h:kN xs ys):uY (.tup xs) (.tup ys):=λO w σ v hv=>by
 cases hv with
 |tup hn hc=>
  refine .tup (by rw [hn,h.1]) λi y u hy hu=>?_
  obtain⟨x,hx,hle⟩:=h.get i y hy
  exact(hc i x u hx hu).le hle
theorem uY.rows {α:Type} {es:Nat} {t t':Bool} {l:List α} {f g:α->List V} (ht:t=true->t'=true)(h:∀x∈l,kN (f x) (g x)):uY (.lst es t' (l.map f)) (.lst es t (l.map g)):=by
 refine .lst (.inl rfl) ht (by simp) λi x y hx hy=>?_
 rw [List.getElem?_map,Option.map_eq_some_iff] at hx hy
 obtain⟨a,ha,rfl⟩:=hx
 obtain⟨b,hb,rfl⟩:=hy
 rw [ha] at hb
 obtain rfl:=Option.some.inj hb
 exact h a (zF ha)
theorem uY.weak {es:Nat} {t:Bool} {xs:List (List V)} :uY (.lst es t xs) (.lst es false xs):=
 .lst (.inl rfl) (by simp) rfl λi x y hx hy=>by rw [hx] at hy;obtain rfl:=Option.some.inj hy;exact kN.refl x
theorem uY.nils {es es':Nat} {t:Bool} :uY (.lst es' t []) (.lst es false []):=.lst (.inr rfl) (by simp) rfl (by simp)
def LeO:Obj->Obj->Prop
 | .row es xs,.row es' ys=>es'=es/\xs.length=ys.length/\∀(i:Nat) (x y:List V),xs[i]? =some x->ys[i]? =some y->kN x y
 | .box xs,.box ys=>kN xs ys
 | .mp xs,.mp ys=>ys=xs
 | .bb xs,.bb ys=>ys=xs
 |_,_=>False
def lQ:List Obj->List Obj->Prop
 | [],[]=>True
 |x::xs,y::ys=>LeO x y/\lQ xs ys
 |_,_=>False
theorem LeO.refl(o:Obj):LeO o o:=by
 cases o with
 |row es xs=>exact⟨rfl,rfl,λi x y hx hy=>by rw [hx] at hy;obtain rfl:=Option.some.inj hy;exact kN.refl x⟩
 |box xs=>exact kN.refl xs
 |mp xs=>rfl
 |bb l=>rfl
theorem lQ.refl:∀l:List Obj,lQ l l
 | []=>trivial
 |o::r=>⟨LeO.refl o,lQ.refl r⟩
theorem lQ.get:∀ {xs ys:List Obj},lQ xs ys->xs.length=ys.length/\∀(i:Nat) (y:Obj),ys[i]? =some y->∃x,xs[i]? =some x/\LeO x y
 | [],[],_=>⟨rfl,by simp⟩
 | [],_::_,h=>h.elim
 |_::_,[],h=>h.elim
 |x::xs,y::ys,h=>by
  obtain⟨h1,h2⟩:=lQ.get h.2
  refine⟨by simp [h1],λi z hz=>?_⟩
  cases i with
  |zero=>simp only [zH,Option.some.injEq] at hz;subst hz;exact⟨x,rfl,h.1⟩
  |succ i=>exact h2 i z (by simpa using hz)
theorem kO.le {O:Nat->Prop} {w:World} {σ:Sg} {loc:Option (Option Nat×Nat×Nat)} {x y:Obj} (h:kO O w σ loc x)(hle:LeO x y):kO O w σ loc y:=by
 cases x with
 |row es xs=>
  cases y with
  |box _=>exact hle.elim
  |mp _=>exact hle.elim
  |bb _=>exact hle.elim
  |row es' ys=>
   obtain⟨rfl,hl,hxy⟩:=hle
   obtain⟨h1,h2⟩:=h
   have get:∀(i:Nat) (y:List V),ys[i]? =some y->∃x,xs[i]? =some x/\kN x y:=λi y hy=>by
    obtain⟨hi,-⟩:=List.getElem?_eq_some_iff.1 hy
    have :=zD (l:=xs) (i:=i) (by omega)
    exact⟨_,this,hxy i _ y this hy⟩
   refine⟨λy hy=>?_,?_⟩
   ·obtain⟨i,hi⟩:=zJ hy
    obtain⟨x,hx,hle⟩:=get i y hi
    rw [<-hle.1];exact h1 x (zF hx)
   ·rcases loc with _ | ⟨_ |b,es',cap⟩
    ·exact h2
    ·obtain⟨e1,e2,e3⟩:=h2
     subst e3
     exact⟨e1,e2,List.length_eq_zero_iff.1 (by rw [<-hl];rfl)⟩
    ·obtain⟨e1,e2,arr,ty,e3,e4,e5⟩:=h2
     refine⟨e1,by rw [<-hl];exact e2,arr,ty,e3,e4,λi y c v hy hv=>?_⟩
     obtain⟨x,hx,hle⟩:=get i y hy
     obtain⟨hc,-⟩:=List.getElem?_eq_some_iff.1 hv
     have hu:=zD (l:=x) (i:=c) (by rw [hle.1];exact hc)
     obtain⟨u,q1,q2,q3⟩:=e5 i x c _ hx hu
     exact⟨u,q1,q2,q3.le (hle.2 c _ v hu hv)⟩
 |box xs=>
  cases y with
  |row _ _=>exact hle.elim
  |mp _=>exact hle.elim
  |bb _=>exact hle.elim
  |box ys=>
   obtain⟨b,e1,arr,ty,e2,e3,e4⟩:=h
   refine⟨b,by rw [e1,hle.1],arr,ty,e2,by rw [e3,hle.1],λc v hv=>?_⟩
   obtain⟨hc,-⟩:=List.getElem?_eq_some_iff.1 hv
   have hu:=zD (l:=xs) (i:=c) (by rw [hle.1];exact hc)
   obtain⟨u,q1,q2,q3⟩:=e4 c _ hu
   exact⟨u,q1,q2,q3.le (hle.2 c _ v hu hv)⟩
 |mp xs=>
  cases y with
  |row _ _=>exact hle.elim
  |box _=>exact hle.elim
  |bb _=>exact hle.elim
  |mp ys=>obtain rfl:=hle;exact h
 |bb xs=>
  cases y with
  |row _ _=>exact hle.elim
  |box _=>exact hle.elim
  |mp _=>exact hle.elim
  |bb ys=>obtain rfl:=hle;exact h
theorem aM.le {P:Program} {f:FuncId} {ob0 ob1 ob1':List Obj} {args args':List V} {res res':V} (h:aM P f ob0 args res ob1)(ha:kN args' args)(hr:uY res res')(ho:lQ ob1 ob1'):aM P f ob0 args' res' ob1':=by
 intro U σ w cargs hR hl hargs
 obtain⟨hol,hog⟩:=ho.get
 have get:∀(j:Nat) (o:Obj),(aN 0 ob1').get j=some o->∃o',(aN 0 ob1).get j=some o'/\LeO o' o:=by
  intro j o hj
  rw [cY,if_pos (zM _),zL] at hj
  obtain⟨x,hx,hle⟩:=hog j o hj
  exact⟨x,by rw [cY,if_pos (zM _),zL];exact hx,hle⟩
 refine(h U σ w cargs hR (by rw [hl,ha.1]) λi v c hv hc=>?_).mono λe w' ⟨cv,σ',he,hR',hv,g⟩=>?_
 ·obtain⟨hi,-⟩:=List.getElem?_eq_some_iff.1 hv
  have hu:=zD (l:=args') (i:=i) (by rw [ha.1];exact hi)
  exact(hargs i _ c hu hc).le (ha.2 i _ v hu hv)
 ·have own:∀b,gW σ' (aN 0 ob1') b->gW σ' (aN 0 ob1) b:=λb ⟨k,o,es,cap,h1,h2⟩=>by
   obtain⟨o',h3,-⟩:=get k o h1
   exact⟨k,o',es,cap,h3,h2⟩
  have ownU:∀b,Own U σ' (aN 0 ob1') b->Own U σ' (aN 0 ob1) b:=λb h=>h.imp id (own b)
  refine⟨cv,σ',he,⟨λk o hk=>?_,λk k' o o' b es cap es' cap' h1 h2=>?_,λk hk=>?_,λb hb=>hR'.disj b (own b hb),hR'.ulim,hR'.gl.less ownU⟩,(hv.le hr).mono (cU.refl _ _) (λb _ h=>ownU b h) λ_ _=>rfl,⟨g.keep,λb hb hO=>g.own b hb (own b hO),g.sg,by rw [<-hol];exact g.nx⟩⟩
  ·obtain⟨o',h1,h2⟩:=get k o hk
   exact(((hR'.obj k o' h1).less ownU).le h2)
  ·obtain⟨p,h3,-⟩:=get k o h1
   obtain⟨p',h4,-⟩:=get k' o' h2
   exact hR'.inj k k' p p' b es cap es' cap' h3 h4
  ·refine⟨?_,(hR'.fresh k (by omega)).2⟩
   rw [cY,if_pos (zM _),zL,List.getElem?_eq_none (by omega)]
end Go.Sk
