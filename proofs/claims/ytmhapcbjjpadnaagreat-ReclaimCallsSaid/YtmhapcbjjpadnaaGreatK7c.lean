/- Caches. -/
import Derived.Test.YtmhapcbjjpadnaaGreatK6c
set_option linter.all false
open Bool renaming and_eq_true→zC
open List renaming getElem?_eq_getElem→zD,mem_of_getElem?→zF,getElem?_cons_succ→zG,getElem?_cons_zero→zH,mem_cons_of_mem→zI,getElem?_of_mem→zJ,mem_singleton→zK
open Nat renaming eq_of_beq_eq_true→zA,le_of_ble_eq_true→zE,sub_zero→zL,zero_le→zM
namespace Go.Sk
open Go Go.RowKit
variable [gL]
def aRG(S:aD):V->Bool
 | .sl k off len=>match S.get k with
   |some (.row _ xs)=>Nat.ble (off+len) xs.length
   |_=>true
 | .slk k off len _=>match S.get k with
   |some (.row _ xs)=>Nat.ble (off+len) xs.length
   |_=>true
 | .ptr k i _=>match S.get k with
   |some (.box cs)=>Nat.beq i 0&&cs.all cN
   |_=>true
 |_=>true
def puB(S:aD):V->Bool
 | .agg cs=>cs.all (aRG S)
 | .fn _ cs=>cs.all (aRG S)
 |v=>aRG S v
theorem aLW {S:aD} {v:V} (h:aRG S v=true):kH S v:=by
 cases v <;> simp only [kH] <;> try trivial
 all_goals
  simp only [aRG] at h;split
  ·rename_i e;simp only [e] at h
   first
    |exact zE h
    | (rw [zC] at h;exact⟨zA h.1,h.2⟩)
  ·trivial
theorem bAL {S:aD} {v:V} (h:puB S v=true):pH S v:=by
 have e:(∃j,v=.agg j)\/(∃f j,v=.fn f j)\/(puB S v=aRG S v/\pH S v=kH S v):=by cases v <;> simp [puB,pH]
 rcases e with ⟨j,rfl⟩| ⟨f,j,rfl⟩| ⟨z,h2⟩
 ·exact λc m=>aLW (List.all_eq_true.1 h c m)
 ·exact λc m=>aLW (List.all_eq_true.1 h c m)
 ·rw [z] at h;rw [h2];exact aLW h
def addN(k:Nat)(l:List Nat):List Nat:=match jB k l with |true=>l |false=>l++ [k]
def nm1:V->List Nat->List Nat
 | .ptr k _ _,l=>addN k l
 | .sl k _ _,l=>addN k l
 | .slx k _ _,l=>addN k l
 | .slk k _ _ _,l=>addN k l
 | .mp k,l=>addN k l
 |_,l=>l
def aON:List V->List Nat->List Nat
 | [],l=>l
 |v::r,l=>aON r (nm1 v l)
def nm2:V->List Nat->List Nat
 | .agg cs,l=>aON cs l
 | .fn _ cs,l=>aON cs l
 | .tup cs,l=>nmT cs l
 |v,l=>nm1 v l
where nmT:List V->List Nat->List Nat
 | [],l=>l
 | .agg cs::r,l=>nmT r (aON cs l)
 | .fn _ cs::r,l=>nmT r (aON cs l)
 |v::r,l=>nmT r (nm1 v l)
def aZI:List V->List Nat->List Nat
 | [],l=>l
 |v::r,l=>aZI r (nm2 v l)
def nmB(S:aD):List Nat->List Nat->List Nat
 | [],l=>l
 |k::r,l=>match S.get k with
  |some (.box cs)=>nmB S r (aON cs l)
  |_=>nmB S r l
def aOH(S:aD)(args:List V):List Nat:=
 let l:=aZI args []
 let l:=nmB S l l
 nmB S l l
def sD(S:aD)(L0:List Nat):List Nat->Option (List Obj)
 | []=>some []
 |k::L=>match S.get k,sD S L0 L with
  |some p,some obs=>some (aV7 L0 p::obs)
  |_,_=>none
theorem oG {S:aD} {e:List Nat} :∀ {L:List Nat} {obs:List Obj},sD S e L=some obs->pW S e L obs
 | [],obs,h=>by obtain rfl:=zsi h;trivial
 |k::L,obs,h=>by
  simp only [sD] at h;split at h
  ·rename_i p f j h2;obtain rfl:=zsi h;refine⟨?_,oG h2⟩;rw [j]
  ·cases h
def mF:List Obj->(List Obj->Prop)->Prop
 | [],K=>K []
 | .row es xs::r,K=>mF r λr=>K (.row es xs::r)
 | .box cs::r,K=>jX cs λcs=>mF r λr=>K (.box cs::r)
 | .mp xs::r,K=>mF r λr=>K (.mp xs::r)
 | .bb l::r,K=>mF r λr=>K (.bb l::r)
theorem rW(l:List Obj)(K:List Obj->Prop):mF l K=K l:=by
 induction l generalizing K with
 |nil=>rfl
 |cons o r e=>cases o <;> simp only [mF,gB,e]
def aDL(k:Nat):List (Option Nat)->Nat->Option Nat
 | [],_=>none
 |some h::t,j=>match Nat.beq k h with
  |true=>some j
  |false=>aDL k t (j+1)
 |none::t,j=>aDL k t (j+1)
theorem rB:∀ {k:Nat} {L:List (Option Nat)} {i j:Nat},aDL k L i=some j->i<=j/\L[j-i]? =some (some k)
 |_,[],_,_,h=>by simp [aDL] at h
 |k,some h::t,i,j,e=>by
  simp only [aDL] at e;split at e
  ·rename_i m;obtain rfl:=zsi e;rw [zA m];simp
  ·obtain⟨f,h2⟩:=rB e;refine⟨by omega,?_⟩;rw [show j-i=(j- (i+1))+1 by omega,zG];exact h2
 |k,none::t,i,j,e=>by simp only [aDL] at e;obtain⟨f,h2⟩:=rB e;refine⟨by omega,?_⟩;rw [show j-i=(j- (i+1))+1 by omega,zG];exact h2
theorem vU:∀ {k:Nat} {L:List (Option Nat)} {i:Nat},aDL k L i=none->aGZ k L=false
 |_,[],_,_=>rfl
 |k,some h::t,i,e=>by
  simp only [aDL] at e;split at e
  ·cases e
  ·rename_i f;simp only [aGZ,f,Bool.false_or];exact vU e
 |k,none::t,i,e=>by simp only [aDL] at e;simp only [aGZ];exact vU e
def aBF(S:aD)(ids:List (Option Nat)):V->V
 | .sl k off len=>match aDL k ids 0 with
   |some j=>.sl j off len
   |none=>match S.get k with
    |some (.row es xs)=>match Nat.ble (off+len) xs.length with
     |true=>.lst es false ((xs.drop off).take len)
     |false=>.any
    |_=>.any
 | .slk k off len c=>match aDL k ids 0 with
   |some j=>.slk j off len c
   |none=>match S.get k with
    |some (.row es xs)=>match Nat.ble (off+len) xs.length with
     |true=>.lst es false ((xs.drop off).take len)
     |false=>.any
    |_=>.any
 | .ptr k i c=>match aDL k ids 0 with
   |some j=>.ptr j i c
   |none=>.any
 | .mp k=>match aDL k ids 0 with
   |some j=>.mp j
   |none=>.any
 | .lst es t xs=>.lst es t xs
 | .int k n=>.int k n
 | .bool b=>.bool b
 | .str s=>.str s
 | .nil=>.nil
 | .val v=>.val v
 | .rp es cs c=>.rp es cs c
 |_=>.any
theorem aG4(S:aD)(ids:List (Option Nat))(x:V):vw1 S ids x (aBF S ids x):=by
 cases x with
 |sl k B len=>
  simp only [aBF];split
  ·rename_i j e;have :=(rB e).2;exact⟨by simpa using this,rfl,rfl⟩
  ·rename_i m;split
   ·rename_i es xs z;split
    ·rename_i f;simp [vw1,z,vU m,zE f]
    ·trivial
   ·trivial
 |slk k B len c=>
  simp only [aBF];split
  ·rename_i j e;have :=(rB e).2;exact⟨by simpa using this,rfl,rfl,rfl⟩
  ·rename_i m;split
   ·rename_i es xs z;split
    ·rename_i f;simp [vw1,z,vU m,zE f]
    ·trivial
   ·trivial
 |ptr k i c=>
  simp only [aBF];split
  ·rename_i j e;have :=(rB e).2;exact⟨by simpa using this,rfl,rfl⟩
  ·trivial
 |mp k=>
  simp only [aBF];split
  ·rename_i j e;have :=(rB e).2;simpa [vw1] using this
  ·trivial
 |lst es t xs=>exact⟨.inl rfl,id,rfl⟩
 |int k n=>exact⟨rfl,rfl⟩
 |bool b=>rfl
 |str s=>rfl
 |nil=>rfl
 |val v=>rfl
 |rp es C c=>rfl
 |_=>trivial
theorem tJ {p:V->V->Prop} {f:V->V} (h:∀x,p x (f x)):∀xs:List V,aN5 p xs (xs.map f)
 | []=>trivial
 |x::r=>⟨h x,tJ h r⟩
def aO2(S:aD)(ids:List (Option Nat)):V->V
 | .agg cs=>.agg (cs.map (aBF S ids))
 | .fn f cs=>.fn f (cs.map (aBF S ids))
 |v=>aBF S ids v
theorem aD3(S:aD)(ids:List (Option Nat))(x:V):(∀cs,aBF S ids x≠ .agg cs)/\(∀f cs,aBF S ids x≠ .fn f cs)/\∀cs,aBF S ids x≠ .tup cs:=by
 cases x <;> simp only [aBF] <;>(repeat' split)<;> refine⟨?_,?_,?_⟩<;> intros <;> simp
theorem bF5 {S:aD} {ids:List (Option Nat)} {x y:V} (h:vw1 S ids x y)(e:∀cs,y≠ .agg cs)(h2:∀f cs,y≠ .fn f cs):vw2 S ids x y:=by
 unfold vw2;split
 ·exact absurd rfl (e _)
 ·exact absurd rfl (h2 _ _)
 ·exact h
theorem aGV(S:aD)(ids:List (Option Nat))(x:V):(∃cs,x=.agg cs)\/(∃f cs,x=.fn f cs)\/aO2 S ids x=aBF S ids x:=by
 cases x <;> simp [aO2]
theorem aUS(S:aD)(ids:List (Option Nat))(x:V):vw2 S ids x (aO2 S ids x):=by
 rcases aGV S ids x with ⟨e,rfl⟩| ⟨f,e,rfl⟩|h
 ·exact tJ (aG4 S ids) e
 ·exact⟨rfl,tJ (aG4 S ids) e⟩
 ·rw [h];exact bF5 (aG4 S ids x) (aD3 S ids x).1 (aD3 S ids x).2.1
def bD4(S:aD)(ids:List (Option Nat)):V->V
 | .tup cs=>.tup (cs.map (aO2 S ids))
 |v=>aO2 S ids v
theorem aVR(S:aD)(ids:List (Option Nat))(x:V):∀cs,aO2 S ids x≠ .tup cs:=by
 rcases aGV S ids x with ⟨cs,rfl⟩| ⟨f,cs,rfl⟩|h
 ·intro cs h;cases h
 ·intro cs h;cases h
 ·rw [h];exact(aD3 S ids x).2.2
theorem bF6(S:aD)(ids:List (Option Nat))(x:V):vw3 S ids x (bD4 S ids x):=by
 have e:(∃f,x=.tup f)\/bD4 S ids x=aO2 S ids x:=by cases x <;> simp [bD4]
 rcases e with ⟨f,rfl⟩|h
 ·exact tJ (aUS S ids) f
 ·rw [h];have j:=aVR S ids x;have m:=aUS S ids x;generalize aO2 S ids x=y at j m;unfold vw3;split
  ·exact absurd rfl (j _)
  ·exact m
def bSL(S:aD)(ids:List (Option Nat)):Obj->Obj
 | .row es xs=>.row es xs
 | .box cs=>.box (cs.map (aBF S ids))
 | .mp xs=>.mp xs
 | .bb l=>.bb l
def bDQ(S:aD)(ids:List (Option Nat)):List (Option Nat)->Option (List Obj)
 | []=>some []
 |some k::r=>match S.get k,bDQ S ids r with
  |some o,some os=>some (bSL S ids o::os)
  |_,_=>none
 |none::_=>none
theorem aTF {S:aD} {ids:List (Option Nat)} :∀ {l:List (Option Nat)} {e:List Obj},bDQ S ids l=some e->pN S ids l e
 | [],e,h=>by obtain rfl:=zsi h;trivial
 |some k::r,e,h=>by
  simp only [bDQ] at h;split at h
  ·rename_i o m j h2;obtain rfl:=zsi h;refine⟨?_,aTF h2⟩;rw [j]
   cases o with
   |row es xs=>exact⟨rfl,rfl⟩
   |box f=>exact tJ (aG4 S ids) f
   |mp xs=>rfl
   |bb l=>rfl
  ·cases h
 |none::r,e,h=>by cases h
def aGT:Nat->Nat->List (Option Nat)
 |_,0=> []
 |i,n+1=>some i::aGT (i+1) n
theorem aE7:∀(n i:Nat) (r:List (Option Nat)),oW i n (aGT i n++r)
 |0,_,_=>by simp [oW]
 |n+1,i,r=>⟨rfl,aE7 n (i+1) r⟩
def aM6(n0:Nat):List Nat->List (Option Nat)
 | []=> []
 |k::r=>match Nat.blt k n0 with
  |true=>aM6 n0 r
  |false=>some k::aM6 n0 r
def aQR:List Nat->Nat->List (Option Nat)->List (Option Nat)
 |_,_,[]=> []
 |dp,i,x::r=>match jB i dp with
  |true=>aQR dp (i+1) r
  |false=>x::aQR dp (i+1) r
def bNY(own:Bool)(dp:List Nat)(n0:Nat)(S:aD)(v:V):List (Option Nat):=
 aGT 0 n0++(match own with
  |true=>aQR dp 0 (aM6 n0 (nmB S (nm2 v []) (nm2 v [])))
  |false=> [])
def rvF(st:St):RV->(V->Prop)->Prop
 | .tmp t,K=>K (bR st.sl [] (.t t))
 | .cell t agg n,K=>rdF st.so (.ld agg n (.t t)) (bR st.sl []) true K
def bEQ(st:St):List RV->(List V->Prop)->Prop
 | [],K=>K []
 |r::rs,K=>rvF st r λv=>oB v λv=>bEQ st rs λvs=>K (v::vs)
theorem aUA(st:St):∀(l:List RV) (K:List V->Prop),bEQ st l K=aIX st l K
 | [],_=>rfl
 |r::rs,K=>by
  simp only [bEQ,aIX,jA,aUA st rs]
  cases r with
  |tmp t=>rfl
  |cell t agg n=>simp only [rvF,rvK,aRI]
def bC2(n0:Nat)(own:Bool)(dp:List Nat)(rvs:List RV)(K:V->List Obj->Prop)(st:St):Prop:=
 bEQ st rvs λvs=>match bNY own dp n0 st.so (aR9 vs) with
  |ids=>match bDQ st.so ids ids with
   |some ob1=>rq (sF ids&&Nat.ble n0 ob1.length) (mF ob1 λob1=>oB (bD4 st.so ids (aR9 vs)) λv=>K v ob1)
   |none=>False
theorem aZ7 {S:aD} {agg:Bool} {n:Nat} {x:A} {e:A->V} {j:Bool} {K f:V->Prop} (hm:∀v,K v->f v)(h:gQ S (.ld agg n x) e j K):gQ S (.ld agg n x) e j f:=by
 simp only [gQ] at h⊢;split at h
 ·split at h
  ·exact⟨h.1,h.2.1,hm _ h.2.2⟩
  ·exact⟨h.1,hm _ h.2⟩
  ·exact⟨h.1,hm _ h.2⟩
 ·exact⟨h.1,hm _ h.2⟩
 ·exact⟨h.1,hm _ h.2⟩
theorem aDR {st:St} :∀ {l:List RV} {K:List V->Prop},aIX st l K->∃vs,K vs/\∀m,m vs->aIX st l m
 | [],K,h=>⟨[],h,λ_ h=>h⟩
 |r::rs,K,h=>by
  simp only [aIX] at h
  cases r with
  |tmp t=> obtain⟨vs,j,h2⟩:=aDR (l:=rs) (K:=λvs=>K (bR st.sl [] (.t t)::vs)) h;exact⟨_,j,λm f=>h2 _ f⟩
  |cell t agg n=> obtain⟨v,j,h2⟩:=aM0 (show gQ st.so (.ld agg n (.t t)) (bR st.sl []) true (λv=>aIX st rs λvs=>K (v::vs)) from h);obtain⟨vs,z,h4⟩:=aDR j;refine⟨v::vs,z,λm f=>?_⟩;simp only [aIX,rvK];exact aZ7 (λv' e=>by subst e;exact h4 _ f) h2
theorem aS4 {n0:Nat} {z:Bool} {B:List Nat} {rvs:List RV} {K:V->List Obj->Prop} {st:St} (h:bC2 n0 z B rvs K st):∃j e,K j e/\aMY n0 rvs j e st:=by
 unfold bC2 at h;rw [aUA] at h;obtain⟨vs,f,h2⟩:=aDR h;dsimp only at f;split at f
 ·rename_i e m;rw [gI,rW,jA,zC] at f;obtain⟨⟨E,C⟩,D⟩:=f;exact⟨_,_,D,h2 _ ⟨_,aTF m,E,aE7 n0 0 _,C,bF6 _ _ _⟩⟩
 ·exact f.elim
end Go.Sk
namespace Go.Sk
open Go Go.RowKit
variable [gL]
theorem aV9 {op:BinOp} {k:IntKind} {a b:Int} {f:Bool} {K e:V->Prop} (hm:∀v,K v->e v)(h:aF6 op k a b f K):aF6 op k a b f e:=by
 cases op <;> simp only [aF6] at h⊢<;> first |exact hm _ h |exact⟨h.1,hm _ h.2⟩
theorem bAP {S:aD} {i:I} {e:A->V} {j:Bool} {K f:V->Prop} (hm:∀v,K v->f v)(h:gQ S i e j K):gQ S i e j f:=by
 revert h;unfold gQ
 repeat' split
 all_goals intro h
 all_goals first
  |exact h.elim
  |exact⟨h.1,aV9 hm h.2⟩
  |exact qJ (λr=>hm _) h
  |exact hm _ h
  |exact⟨h.1,hm _ h.2⟩
  |exact⟨h.1,h.2.1,hm _ h.2.2⟩
theorem aPX {S:aD} {n:Nat} {i:I} {e:A->V} {K f:V->aD->Nat->Prop} (hm:∀a b c,K a b c->f a b c)(h:pO S n i e K):pO S n i e f:=by
 revert h;unfold pO
 repeat' split
 all_goals intro h
 all_goals first
  |exact h.elim
  |exact hm _ _ _ h
  |exact⟨h.1,hm _ _ _ h.2⟩
  |exact⟨h.1,h.2.1,hm _ _ _ h.2.2⟩
  |exact⟨h.1,h.2.1,h.2.2.1,hm _ _ _ h.2.2.2⟩
  |exact⟨h.1,h.2.1,h.2.2.1,h.2.2.2.1,hm _ _ _ h.2.2.2.2⟩
  |exact⟨h.1,h.2.1,h.2.2.1,h.2.2.2.1,h.2.2.2.2.1,hm _ _ _ h.2.2.2.2.2⟩
  | (obtain⟨j,h2,m⟩:=h
     revert m
     repeat' split
     all_goals intro h
     all_goals first
      |exact h.elim
      |exact⟨j,h2,h.1,h.2.1,hm _ _ _ h.2.2⟩
      |exact⟨j,h2,h.1,h.2.1,h.2.2.1,h.2.2.2.1,h.2.2.2.2.1,hm _ _ _ h.2.2.2.2.2⟩)
theorem aH9 {P:Program} {ssl:bA} {j:aD} {m:Nat} {ch:List (Nat×Bool)} {C:Bool} {i:I} {K F:V->aD->Nat->Prop} (hm:∀a b c,K a b c->F a b c)(h:dO P ssl j m ch C i K):dO P ssl j m ch C i F:=by
 have Y:∀i,dO P ssl j m ch C i K->(∀K,dO P ssl j m ch C i K=gQ j i (bR ssl ch) C λv=>K v j m)->dO P ssl j m ch C i F:=by intro i h W;rw [W] at h⊢;exact bAP (λv=>hm _ _ _) h
 have E:∀i,dO P ssl j m ch C i K->(∀K,dO P ssl j m ch C i K=mV ssl j m ch C i K)->dO P ssl j m ch C i F:=by
  intro i h W;rw [W] at h⊢;unfold mV at h⊢
  cases ch with
  |nil=>exact aPX hm h
  |cons g r=>exact⟨λe=>aPX hm (h.1 e),λe=>hm _ _ _ (h.2 e)⟩
 have Q:∀f (B:List V),nC (sK P f B j C λv=>K v j m) ((C=true->qD P f B j m K)/\(C=false->K .any j m)) ((C=true->rV P f B j m K)/\(C=false->K .any j m)) ((C=true->sE P f B j m K)/\(C=false->K .any j m))->
  nC (sK P f B j C λv=>F v j m) ((C=true->qD P f B j m F)/\(C=false->F .any j m)) ((C=true->rV P f B j m F)/\(C=false->F .any j m)) ((C=true->sE P f B j m F)/\(C=false->F .any j m)):=by
  rintro f B (⟨D,G,h2,h3⟩| ⟨G,h2⟩| ⟨G,h2⟩| ⟨G,h2⟩)
  ·exact .inl ⟨D,G,h2,hm _ _ _ h3⟩
  ·exact .inr ⟨λe=>by obtain⟨L,H,J,D,M,N,O,R,T,a6⟩:=G e;exact⟨L,H,J,D,M,N,O,R,T,hm _ _ _ a6⟩,λe=>hm _ _ _ (h2 e)⟩
  ·exact .frz ⟨λe=>by obtain⟨Z,D,M,N,O⟩:=G e;exact⟨Z,D,M,N,hm _ _ _ O⟩,λe=>hm _ _ _ (h2 e)⟩
  ·exact .mov ⟨λe=>by obtain⟨L,H,J,D,M,N,O,R,T⟩:=G e;exact⟨L,H,J,D,M,N,O,R,hm _ _ _ T⟩,λe=>hm _ _ _ (h2 e)⟩
 cases i with
 |pick c a b=>
  cases c with
  |c v=>exact Y _ h λ_=>rfl
  |t tc=>
   simp only [dO] at h⊢;split at h
   ·split at h
    ·exact hm _ _ _ h
    ·split at h
     ·exact hm _ _ _ h
     ·exact hm _ _ _ h
   ·exact⟨h.1,hm _ _ _ h.2⟩
 |build z ps=>
  simp only [dO] at h⊢;split at h
  ·exact⟨h.1,hm _ _ _ h.2⟩
  ·exact h.elim
 |call f xs=>exact Q _ _ h
 |vcall x xs=>
  simp only [dO] at h⊢;split at h
  ·exact⟨h.1,Q _ _ h.2⟩
  ·exact⟨h.1,hm _ _ _ h.2⟩
 |clr a b c=>exact E _ h λ_=>rfl
 |alloc z=>exact E _ h λ_=>rfl
 |box z=>exact E _ h λ_=>rfl
 |st a b c=>exact E _ h λ_=>rfl
 |mkmap a=>exact E _ h λ_=>rfl
 |mput a b c=>exact E _ h λ_=>rfl
 |mputp a b c=>exact E _ h λ_=>rfl
 |bslice a b c d=>exact E _ h λ_=>rfl
 |mk a b c d e=>exact E _ h λ_=>rfl
 |app a b c d=>exact E _ h λ_=>rfl
 |cpy a b c=>exact E _ h λ_=>rfl
 |s2b a=>exact E _ h λ_=>rfl
 |aslc a b c=>exact E _ h λ_=>rfl
 |cpys a b=>exact E _ h λ_=>rfl
 |_=>exact Y _ h λ_=>rfl
def aQI(e:A->V):I->List Nat
 | .st _ x _=>qP (e x)
 | .cpy _ x _=>qP (e x)
 | .cpys x _=>qP (e x)
 | .clr _ _ x=>qP (e x)
 | .mput x _ _=>qP (e x)
 | .mputp x _ _=>qP (e x)
 | .aslc _ x _=>qP (e x)
 | .app _ _ x _=>qP (e x)
 |_=> []
theorem aYY {v:V} {k off len:Nat} (h:unk v=.sl k off len):qP v=[k]:=by
 cases v <;> simp [unk] at h
 ·obtain⟨rfl,rfl,rfl⟩:=h;rfl
 ·obtain⟨rfl,rfl,rfl⟩:=h;rfl
theorem aVX {v:V} {k off len:Nat} (h:unk v=.slx k off len):qP v=[k]:=by
 cases v <;> simp [unk] at h
 obtain⟨rfl,rfl,rfl⟩:=h;rfl
theorem aPY {B S:aD} {m n:Nat} {i:I} {e:A->V} {v:V} (h:pO B m i e λa b c=>a=v/\b=S/\c=n) {k:Nat} (j:k≠m)(z:k∉aQI e i):S.get k=B.get k:=by
 revert h;unfold pO
 repeat' split
 all_goals intro h
 all_goals first
  |exact h.elim
  | (obtain⟨-,rfl,-⟩:=h;simp [aD.get_set,aD.get_del,j];done)
  | (obtain⟨-,-,rfl,-⟩:=h;simp [aD.get_set,aD.get_del,j];done)
  | (obtain⟨-,-,-,-,-,rfl,-⟩:=h;simp [aD.get_set,aD.get_del,j];done)
  | (obtain⟨-,-,rfl,-⟩:=h
     rename_i e1 _ _ _;simp only [aQI,e1,qP,bD6,zK] at z;simp [aD.get_set,aD.get_del,z];done)
  |skip
 all_goals
  try exact h.2.2.elim
 all_goals
  have f:k∉aQI e _:=z;simp only [aQI] at f
  first
   |rw [‹e _=V.ptr _ _ _›] at f
   |rw [‹e _=V.mp _›] at f
   |rw [aYY ‹unk (e _)=V.sl _ _ _›] at f
   |rw [aVX ‹unk (e _)=V.slx _ _ _›] at f
   |skip
  simp only [qP,bD6,zK] at f
  first
   | (obtain rfl:=h.2.2.1;simp [aD.get_set,aD.get_del,j,f];done)
   | (obtain rfl:=h.2.2.2.1;simp [aD.get_set,aD.get_del,j,f];done)
   | (obtain rfl:=h.2.2.2.2.1;simp [aD.get_set,aD.get_del,j,f];done)
   | (obtain rfl:=h.2.2.2.2.2.1;simp [aD.get_set,aD.get_del,j,f];done)
   | (obtain rfl:=h.2.2.2.2.2.2.2.2.1;simp [aD.get_set,aD.get_del,j,f];done)
def eqL {α:Type} (f:α->α->Bool):List α->List α->Bool
 | [],[]=>true
 |x::r,y::q=>f x y&&eqL f r q
 |_,_=>false
theorem rU {α:Type} {f:α->α->Bool} (e:∀x y,f x y=true->x=y):∀ {l m:List α},eqL f l m=true->l=m
 | [],[],_=>rfl
 |x::r,y::q,h=>by simp only [eqL,zC] at h;rw [e _ _ h.1,rU e h.2]
 | [],_::_,h=>by cases h
 |_::_,[],h=>by cases h
def eqU(a b:UInt8):Bool:=Nat.beq a.toNat b.toNat
theorem bIS(a b:UInt8)(h:eqU a b=true):a=b:=UInt8.toNat_inj.1 (zA h)
def bNO(a b:ByteArray):Bool:=eqL eqU a.data.toList b.data.toList
theorem bCX(a b:ByteArray)(h:bNO a b=true):a=b:=by
 have :=rU bIS h;cases a;cases b
 congr 1
 exact Array.toList_inj.1 this
def eqV:Nat->V->V->Bool
 |0,_,_=>false
 |n+1,a,b=>match a,b with
  | .any,.any=>true
  | .int k x,.int k' y=>decide (k=k')&&decide (x=y)
  | .bool x,.bool y=>x==y
  | .str x,.str y=>bNO x y
  | .agg x,.agg y=>eqL (eqV n) x y
  | .tup x,.tup y=>eqL (eqV n) x y
  | .nil,.nil=>true
  | .ptr k i c,.ptr k' i' c'=>Nat.beq k k'&&(Nat.beq i i'&&Nat.beq c c')
  | .sl k i c,.sl k' i' c'=>Nat.beq k k'&&(Nat.beq i i'&&Nat.beq c c')
  | .lst e t x,.lst e' t' y=>Nat.beq e e'&&((t==t')&&eqL (eqL (eqV n)) x y)
  | .mp k,.mp k'=>Nat.beq k k'
  |_,_=>false
theorem aCZ:∀(n:Nat) (a b:V),eqV n a b=true->a=b
 |0,_,_,h=>by cases h
 |n+1,a,b,h=>by
  unfold eqV at h;split at h <;>(try simp only [zC,decide_eq_true_eq,zbe] at h)<;>(try cases h;done)
  ·rfl
  ·rw [h.1,h.2]
  ·rw [h]
  ·rw [bCX _ _ h]
  ·rw [rU (aCZ n) h]
  ·rw [rU (aCZ n) h]
  ·rfl
  ·rw [zA h.1,zA h.2.1,zA h.2.2]
  ·rw [zA h.1,zA h.2.1,zA h.2.2]
  ·rw [zA h.1,h.2.1,rU (λx y=>rU (aCZ n)) h.2.2]
  ·rw [zA h]
def bIR:Option Obj->Option Obj->Bool
 |none,none=>true
 |some (.row e x),some (.row e' y)=>Nat.beq e e'&&eqL (eqL (eqV 12)) x y
 |some (.box x),some (.box y)=>eqL (eqV 12) x y
 |_,_=>false
theorem bCY {a b:Option Obj} (h:bIR a b=true):a=b:=by
 unfold bIR at h;split at h
 ·rfl
 ·rw [zC] at h;rw [zA h.1,rU (λx y=>rU (aCZ 12)) h.2]
 ·rw [rU (aCZ 12) h]
 ·cases h
def aUB(SO S1:aD)(W:List Nat):List Nat->Bool
 | []=>true
 |k::r=>(jB k W||bIR (S1.get k) (SO.get k))&&aUB SO S1 W r
theorem aPK {m S1:aD} {W:List Nat} :∀ {T:List Nat},aUB m S1 W T=true->∀k∈T,k∉W->S1.get k=m.get k
 | [],_,k,e,_=>by cases e
 |j::r,h,k,e,z=>by
  simp only [aUB,zC,Bool.or_eq_true] at h;rcases List.mem_cons.1 e with rfl |e
  ·rcases h.1 with f |f
   ·exact absurd (hY.1 f) z
   ·exact bCY f
  ·exact aPK h.2 k e z
def bRH(i:I)(SO S1:aD)(W T:List Nat):Bool:=
 match i with
 | .call f _=>match jB f gL.ro with
   |true=>aUB SO S1 W T
   |false=>true
 |_=>true
abbrev Cx:=Nat->FuncId->List V->aD->Nat->(V->aD->Nat->Prop)->Prop
def aV1(P:Program)(cx:Cx):Prop:=∀d f args S m K,cx d f args S m K->∃v S' n',K v S' n'/\((S'=S/\n'=m/\∀K':V->Prop,K' v->sK P f args S true K')\/(n'=m+16/\∀K':V->aD->Nat->Prop,K' v S' n'->qD P f args S m K')\/(n'=m+1/\∀K':V->aD->Nat->Prop,K' v S' n'->rV P f args S m K')\/(n'=m+16/\∀K':V->aD->Nat->Prop,K' v S' n'->sE P f args S m K'))
def aCT(P:Program)(f:FuncId):Bool:=
 match P.funcs[f]? with
 |some fn=>fn.body.isSome&& !(fn.name== "runtime.NumGoroutine")
 |none=>false
theorem aL1 {P:Program} {f:FuncId} (h:aCT P f=true):jL P f:=by
 unfold aCT at h;split at h
 ·rename_i fn e;rw [zC,Bool.not_eq_true'] at h;exact⟨fn,e,h.1,h.2⟩
 ·cases h
def aZ3(P:Program)(cx:FuncId->List V->aD->Nat->(V->aD->Nat->Prop)->Prop)(ssl:bA)(sso:aD)(snx:Nat)(ch:List (Nat×Bool))(gc:Bool)(i:I)(K:V->aD->Nat->Prop):Prop:=
 match i with
 | .call f xs=>match gc with
   |true=>jX (xs.map (bR ssl ch)) λa=>cx f a sso snx K
   |false=>K .any sso snx
 | .vcall x xs=>match bR ssl ch x with
   | .fn f caps=>rq (aCT P f) (match gc with
     |true=>jX (xs.map (bR ssl ch)++caps) λa=>cx f a sso snx K
     |false=>K .any sso snx)
   |_=>rq (!gc) (K .any sso snx)
 |i=>fI P ssl sso snx ch gc i K
def aHB:I->Bool
 | .call _ _=>true
 | .vcall _ _=>true
 |_=>false
theorem aOE {P:Program} {N:Cx} (Q:aV1 P N) {d:Nat} {ssl:bA} {m:aD} {j:Nat} {ch:List (Nat×Bool)} {D:Bool} {i:I} {K:V->aD->Nat->Prop} (h:aZ3 P (N d) ssl m j ch D i K):
 ∃v S n,K v S n/\dO P ssl m j ch D i (λa b c=>a=v/\b=S/\c=n)/\(aHB i=true->(S=m/\n=j)\/n=j+16\/n=j+1):=by
 have F:∀f (a:List V),N d f a m j K->∃v S n,K v S n/\nC (sK P f a m true λT=>T=v/\m=S/\j=n) ((true=true->qD P f a m j λa b c=>a=v/\b=S/\c=n)/\(true=false->.any=v/\m=S/\j=n)) ((true=true->rV P f a m j λa b c=>a=v/\b=S/\c=n)/\(true=false->.any=v/\m=S/\j=n)) ((true=true->sE P f a m j λa b c=>a=v/\b=S/\c=n)/\(true=false->.any=v/\m=S/\j=n))/\((S=m/\n=j)\/n=j+16\/n=j+1):=by
  intro f a h;obtain⟨v,M,R,H,⟨rfl,rfl,z⟩| ⟨G,z⟩| ⟨G,z⟩| ⟨G,z⟩⟩:=Q d f a m j K h
  ·exact⟨v,_,_,H,.inl (z _ ⟨rfl,rfl,rfl⟩),.inl ⟨rfl,rfl⟩⟩
  ·exact⟨v,M,R,H,.inr ⟨λ_=>z _ ⟨rfl,rfl,rfl⟩,(by intro h;cases h)⟩,.inr (.inl G)⟩
  ·exact⟨v,M,R,H,.frz ⟨λ_=>z _ ⟨rfl,rfl,rfl⟩,(by intro h;cases h)⟩,.inr (.inr G)⟩
  ·exact⟨v,M,R,H,.mov ⟨λ_=>z _ ⟨rfl,rfl,rfl⟩,(by intro h;cases h)⟩,.inr (.inl G)⟩
 have C:fI P ssl m j ch D i K->aHB i=false->∃v S n,K v S n/\dO P ssl m j ch D i (λa b c=>a=v/\b=S/\c=n)/\(aHB i=true->(S=m/\n=j)\/n=j+16\/n=j+1):=by intro h E;rw [aLK] at h;obtain⟨v,S,n,z,h2⟩:=aOD (st:=⟨ssl,m,j⟩) h;exact⟨v,S,n,z,h2,λh=>by rw [E] at h;cases h⟩
 cases i with
 |call f xs=>
  simp only [aZ3] at h
  cases D with
  |true=> simp only [gB] at h;obtain⟨v,S,n,z,h2,O⟩:=F _ _ h;exact⟨v,S,n,z,h2,λ_=>O⟩
  |false=>exact⟨_,_,_,h,.inr ⟨(by intro h;cases h),λ_=>⟨rfl,rfl,rfl⟩⟩,λ_=>.inl ⟨rfl,rfl⟩⟩
 |vcall x xs=>
  simp only [aZ3] at h;split at h
  ·rename_i f B J;rw [gI] at h;obtain⟨E,h⟩:=h;have E:=aL1 E
   cases D with
   |true=> simp only [gB] at h;obtain⟨v,S,n,z,h2,O⟩:=F _ _ h;refine⟨v,S,n,z,?_,λ_=>O⟩;unfold dO;dsimp only;rw [J];exact⟨E,h2⟩
   |false=> refine⟨_,_,_,h,?_,λ_=>.inl ⟨rfl,rfl⟩⟩;unfold dO;dsimp only;rw [J];exact⟨E,.inr ⟨(by intro h;cases h),λ_=>⟨rfl,rfl,rfl⟩⟩⟩
  ·rename_i J;rw [aRS] at h;refine⟨_,_,_,h.2,?_,λ_=>.inl ⟨rfl,rfl⟩⟩;unfold dO;dsimp only;split
   ·rename_i f B e;exact absurd e (J f B)
   ·exact⟨h.1,rfl,rfl,rfl⟩
 |_=>exact C h rfl
def bDW(P:Program)(cx:Cx):List iZ->St->(St->Prop)->Prop
 | [],st,K=>K st
 | ⟨d,g,i⟩::r,⟨ssl,sso,snx⟩,K=>rY ssl g λch gc=>aZ3 P (cx (d.getD 0)) ssl sso snx ch gc i λv S n=>oB v λv=>dN S λS=>cL 64 0 n λn=>aC3 ssl d ⟨ch,gc,v⟩ λsl=>bDW P cx r ⟨sl,S,n⟩ K
theorem aOY {P:Program} {B:Cx} (j:aV1 P B):∀(l:List iZ) (st:St) (K:St->Prop),bDW P B l st K->∃f,K f/\∀m:St->Prop,m f->sH P l st m
 | [],st,K,h=>⟨st,h,λ_ h=>h⟩
 | ⟨d,g,i⟩::r,⟨ssl,F,E⟩,K,h=>by
   simp only [bDW,nK] at h;simp only [sH]
   cases hg:guardOf ssl g with
   |none=>rw [hg] at h;exact h.elim
   |some p=> obtain⟨ch,G⟩:=p;rw [hg] at h;obtain⟨v,S,n,C,h2,-⟩:=aOE j h;simp only [jA,eU,dS,rF] at C;obtain⟨f,D,h4⟩:=aOY j r _ K C;refine⟨f,D,λm z=>?_⟩;refine aH9 (λa b c e=>?_) h2;obtain⟨rfl,rfl,rfl⟩:=e;exact h4 m z
theorem aQZ {P:Program} {ssl:bA} {j S:aD} {m n:Nat} {ch:List (Nat×Bool)} {D:Bool} {i:I} {v:V} (h:dO P ssl j m ch D i λa b c=>a=v/\b=S/\c=n)(hi:aHB i=false) {k:Nat} (F:k≠m)(B:k∉aQI (bR ssl ch) i):S.get k=j.get k:=by
 have G:∀i,dO P ssl j m ch D i (λa b c=>a=v/\b=S/\c=n)->(∀K,dO P ssl j m ch D i K=gQ j i (bR ssl ch) D λv=>K v j m)->S.get k=j.get k:=by intro i h E;rw [E] at h;obtain⟨u,H,-⟩:=aM0 h;obtain⟨-,rfl,-⟩:=H;rfl
 have C:∀i,dO P ssl j m ch D i (λa b c=>a=v/\b=S/\c=n)->(∀K,dO P ssl j m ch D i K=mV ssl j m ch D i K)->k∉aQI (bR ssl ch) i->S.get k=j.get k:=by
  intro i h E B;rw [E] at h;unfold mV at h
  cases ch with
  |nil=>exact aPY h F B
  |cons g r=>
   cases D with
   |true=>exact aPY (h.1 rfl) F B
   |false=>obtain⟨-,rfl,-⟩:=h.2 rfl;rfl
 cases i with
 |pick c a b=>
  cases c with
  |c v=>exact G _ h λ_=>rfl
  |t M=>
   simp only [dO] at h;split at h
   ·split at h
    ·obtain⟨-,rfl,-⟩:=h;rfl
    ·split at h
     ·obtain⟨-,rfl,-⟩:=h;rfl
     ·obtain⟨-,rfl,-⟩:=h;rfl
   ·obtain⟨-,-,rfl,-⟩:=h;rfl
 |build z J=>
  simp only [dO] at h;split at h
  ·obtain⟨-,-,rfl,-⟩:=h;rfl
  ·exact h.elim
 |call f xs=>cases hi
 |vcall x xs=>cases hi
 |clr a b c=>exact C _ h (λ_=>rfl) B
 |alloc z=>exact C _ h (λ_=>rfl) B
 |box z=>exact C _ h (λ_=>rfl) B
 |st a b c=>exact C _ h (λ_=>rfl) B
 |mkmap a=>exact C _ h (λ_=>rfl) B
 |mput a b c=>exact C _ h (λ_=>rfl) B
 |mputp a b c=>exact C _ h (λ_=>rfl) B
 |bslice a b c d=>exact C _ h (λ_=>rfl) B
 |mk a b c d e=>exact C _ h (λ_=>rfl) B
 |app a b c d=>exact C _ h (λ_=>rfl) B
 |cpy a b c=>exact C _ h (λ_=>rfl) B
 |s2b a=>exact C _ h (λ_=>rfl) B
 |aslc a b c=>exact C _ h (λ_=>rfl) B
 |cpys a b=>exact C _ h (λ_=>rfl) B
 |_=>exact G _ h λ_=>rfl
theorem uS {m S1:aD} {W:List Nat} {K:Prop} (e:K):∀ {T:List Nat},(∀k∈T,k∉W->S1.get k=m.get k)->aEQ m S1 W K T
 | [],_=>e
 |k::r,h=>by
  simp only [aEQ];split
  ·exact uS e λj f=>h j (zI _ f)
  ·rename_i z;exact⟨h k (by simp) (λhm=>by rw [hY.2 hm] at z;cases z),uS e λj f=>h j (zI _ f)⟩
def aY5(P:Program)(cx:Cx):St->Nat->Option Nat->Option (Nat×Bool)->I->(Rec->St->Prop)->Prop
 | ⟨ssl,sso,snx⟩,m,d,g,i,K=>
 dI (gsl g++aPS i) λrds=>rX (look ssl rds) λSL=>rY SL g λch gc=>dI (uD i SL sso) λT=>dN (iT sso T) λSO=>dI (gsl g++chs SL) λG=>
  aZ3 P (cx (d.getD 0)) SL SO m ch gc i λv S1 n1=>oB v λv=>dN S1 λS1=>dI (wrI SL T m n1 i) λW=>dI (W++aHM m S1) λids=>
   rq ((aD8 T m S1&&(qY d G&&(aGD (m+16) ids&&(aIZ W T&&(aIZ (chT ch) G&&(aGH m T&&Nat.ble n1 (m+16)))))))&&(aIZ (aQI (bR SL ch) i) W&&bRH i SO S1 W T))
   (aC3 ssl d ⟨ch,gc,v⟩ λsl=>dN (aC0 sso S1 ids) λso=>K ⟨m,rds++G,chT ch,d,⟨ch,gc,v⟩,T,ids,S1⟩ ⟨sl,so,snx⟩)
def aNT(P:Program)(cx:Cx):List iZ->List Nat->St->(List Rec->St->Prop)->Prop
 | [],[],st,K=>K [] st
 | ⟨d,g,i⟩::r,m::ms,st,K=>aY5 P cx st m d g i λrc st'=>aNT P cx r ms st' λrs st''=>K (rc::rs) st''
 |_,_,_,_=>False
theorem aVJ {P:Program} {R:Cx} (G:aV1 P R):∀(st:St) (m:Nat) (d:Option Nat) (g:Option (Nat×Bool)) (i:I) (K:Rec->St->Prop),aY5 P R st m d g i K->∃rc B,K rc B/\∀M:Rec->St->Prop,M rc B->aGQ P st m d g i M
 | ⟨ssl,z,ab⟩,m,d,g,i,K,h=>by
   simp only [aY5,fZ,oA,nK,eU] at h;simp only [aGQ,fZ,oA,nK,eU];generalize aa:look ssl (gsl g++aPS i)=N at h⊢
   cases hg:guardOf N g with
   |none=>rw [hg] at h;exact h.elim
   |some p=>
    obtain⟨ch,gc⟩:=p;rw [hg] at h;dsimp only at h⊢;obtain⟨v,S1,n1,W,h2,h3⟩:=aOE G h;simp only [jA,gI,zC,rF] at W;obtain⟨⟨⟨a1,a2,a3,a4,a5,O,a7⟩,a8,Q⟩,H⟩:=W;refine⟨_,_,H,λM E=>?_⟩;refine aH9 (λa b c e=>?_) h2;obtain⟨rfl,rfl,rfl⟩:=e;simp only [jA,zC,rF];refine⟨⟨a1,a2,a3,a4,a5,O,a7⟩,uS E λk C D=>?_⟩;have J:k≠m:=λe=>aAJ O k C ⟨by omega,by omega⟩
    cases F:aHB i with
    |false=>exact aQZ h2 F J λhm=>D (nQ a8 k hm)
    |true=>
     have T:∀j,c=m+(j+1)->b.get k=(iT z (uD i N z)).get k:=by
      intro j e
      have Y:Nat.beq (m+(j+1)) m=false:=by
       cases hq:Nat.beq (m+(j+1)) m with
       |false=>rfl
       |true=>have :=zA hq;omega
      subst e;cases i <;> try(cases F;done)
      ·rename_i f xs
       cases Z:jB f gL.ro with
       |true=> simp only [bRH,Z] at Q;exact aPK Q k C D
       |false=> exfalso;apply D;simp only [wrI,Y,Z];exact C
      ·exfalso;apply D;simp only [wrI,Y];exact C
     rcases h3 F with ⟨e,-⟩|e |e
     ·rw [e]
     ·exact T 15 e
     ·exact T 0 e
theorem aCW {P:Program} {D:Cx} (f:aV1 P D):∀(l:List iZ) (z:List Nat) (st:St) (K:List Rec->St->Prop),aNT P D l z st K->∃rs e,K rs e/\∀C:List Rec->St->Prop,C rs e->nY P l z st C
 | [],[],st,K,h=>⟨_,_,h,λ_ h=>h⟩
 | [],_::_,st,K,h=>h.elim
 | ⟨d,g,i⟩::r,[],st,K,h=>h.elim
 | ⟨d,g,i⟩::r,m::z,st,K,h=>by simp only [aNT] at h;simp only [nY];obtain⟨rc,e,E,h2⟩:=aVJ f _ _ _ _ _ _ h;obtain⟨rs,j,F,h4⟩:=aCW f r z e _ E;exact⟨rc::rs,j,F,λC B=>h2 _ (h4 _ B)⟩
def ul:RC->RC
 | .seq a b=>.seq (ul a) (ul b)
 | .cond c a b=>.cond c (ul a) (ul b)
 | .block id a=>.block id (ul a)
 | .loop a=>.uloop (ul a)
 | .uloop a=>.uloop (ul a)
 |rc=>rc
theorem iX:∀rc:RC,strip (ul rc)=strip rc
 | .seq a b=>by simp only [ul,strip,iX a,iX b]
 | .cond c a b=>by simp only [ul,strip,iX a,iX b]
 | .block id a=>by simp only [ul,strip,iX a]
 | .loop a=>by simp only [ul,strip,iX a]
 | .uloop a=>by simp only [ul,strip,iX a]
 | .skip=>rfl
 | .reg _ _=>rfl
 | .dreg .. =>rfl
 | .cut _ _=>rfl
 | .regc .. =>rfl
 | .regv .. =>rfl
 | .exit _=>rfl
 | .ret=>rfl
 | .bad=>rfl
def nW(P:Program)(cx:Cx)(lf:Nat):RC->St->(Ex->St->Prop)->Prop
 | .skip,st,K=>K .normal st
 | .reg l kill,st,K=>bDW P cx l st λ| ⟨sl0,so0,nx0⟩=>fE kill sl0 λsl=>K .normal ⟨sl,so0,nx0⟩
 | .dreg b0 n l kill an ms,st,K=>match Nat.ble st.nx b0 with
   |true=>aNT P cx l ms ⟨st.sl,st.so,n⟩ λ|recs,⟨sl0,so0,nx0⟩=>rq (nX recs an 0)<|fE kill (look sl0 (qU sl0)) λsl=>K .normal ⟨sl,so0,nx0⟩
   |false=>aNT P cx l (shM st.nx ms) ⟨st.sl,st.so,n+st.nx⟩ λ|recs,⟨sl0,so0,nx0⟩=>rq (nX recs an 0)<|fE kill (look sl0 (qU sl0)) λsl=>K .normal ⟨sl,so0,nx0⟩
 | .seq a b,st,K=>nW P cx lf a st λe st'=>match e with
   | .normal=>nW P cx lf b st' K
   | .exit id=>K (.exit id) st'
   | .ret=>K .ret st'
 | .cond c a b,st,K=>match bR st.sl [] c with
   | .bool x=>cq x (nW P cx lf a st K) (nW P cx lf b st K)
   |_=>False
 | .block id c,st,K=>nW P cx lf c st λe st'=>match e with
   | .exit j=>match Nat.beq j id with
     |true=>K .normal st'
     |false=>K (.exit j) st'
   | .normal=>K .normal st'
   | .ret=>K .ret st'
 | .loop c,st,K=>uF (nW P cx lf c) K lf st
 | .uloop c,st,K=>uF (nW P cx lf c) K lf st
 | .exit id,st,K=>K (.exit id) st
 | .ret,st,K=>K .ret st
 |_,_,_=>False
def bLS(f g:St->(Ex->St->Prop)->Prop):Prop:=∀st K,f st K->∃e st',K e st'/\∀K':Ex->St->Prop,K' e st'->g st K'
theorem aHD {f g:St->(Ex->St->Prop)->Prop} (h:bLS f g):∀(n:Nat) (st:St) (K:Ex->St->Prop),uF f K n st->∃e m,K e m/\∀z:Ex->St->Prop,z e m->∃C,uF g z C st
 |0,_,_,hi=>hi.elim
 |n+1,st,K,hi=>by
  obtain⟨e,m,B,h2⟩:=h st _ hi
  cases e with
  |normal=> obtain⟨E,D,F,h4⟩:=aHD h n m K B;refine⟨E,D,F,λz j=>?_⟩;obtain⟨C,h5⟩:=h4 z j;exact⟨C+1,h2 _ h5⟩
  |exit id=>exact⟨_,_,B,λz j=>⟨1,h2 _ j⟩⟩
  |ret=>exact⟨_,_,B,λz j=>⟨1,h2 _ j⟩⟩
theorem vH {P:Program} {R:Cx} (B:aV1 P R)(O n0:Nat):∀rc:RC,bLS (nW P R O rc) (dF P n0 (ul rc)):=by
 intro rc
 induction rc with
 |skip=>intro st K h;exact⟨_,_,h,λ_ h=>h⟩
 |exit id=>intro st K h;exact⟨_,_,h,λ_ h=>h⟩
 |ret=>intro st K h;exact⟨_,_,h,λ_ h=>h⟩
 |reg l F=> intro st K h;simp only [nW,iB] at h;obtain⟨⟨sl0,H,G⟩,m,h2⟩:=aOY B l st _ h;exact⟨_,_,m,λJ f=>h2 _ f⟩
 |dreg b0 n l F an Z=>
  intro st K h;simp only [nW,iB,gI] at h;split at h
  ·rename_i M;obtain⟨rs,⟨sl0,H,G⟩,m,h2⟩:=aCW B l Z _ _ h;exact⟨_,_,m.2,λJ f=>by simp only [ul,dF,M];exact h2 _ ⟨m.1,f⟩⟩
  ·rename_i M;obtain⟨rs,⟨sl0,H,G⟩,m,h2⟩:=aCW B l _ _ _ h;exact⟨_,_,m.2,λJ f=>by simp only [ul,dF,M];exact h2 _ ⟨m.1,f⟩⟩
 |seq a b C D=>
  intro st K h;obtain⟨e,z,m,h2⟩:=C st _ h
  cases e with
  |normal=> obtain⟨W,Q,Y,h4⟩:=D z K m;exact⟨W,Q,Y,λJ f=>h2 _ (h4 _ f)⟩
  |exit id=>exact⟨_,_,m,λJ f=>h2 _ f⟩
  |ret=>exact⟨_,_,m,λJ f=>h2 _ f⟩
 |cond c a b C D=>
  intro st K h;simp only [nW] at h;split at h
  ·rename_i x T
   cases x with
   |true=> obtain⟨e,z,m,h2⟩:=C st K h;refine⟨e,z,m,λJ f=>?_⟩;simp only [ul,dF,T];exact⟨λ_=>h2 _ f,(by intro h;cases h)⟩
   |false=> obtain⟨e,z,m,h2⟩:=D st K h;refine⟨e,z,m,λJ f=>?_⟩;simp only [ul,dF,T];exact⟨(by intro h;cases h),λ_=>h2 _ f⟩
  ·exact h.elim
 |block id c E=>
  intro st K h;obtain⟨e,z,m,h2⟩:=E st _ h
  cases e with
  |normal=>exact⟨_,_,m,λJ f=>h2 _ f⟩
  |ret=>exact⟨_,_,m,λJ f=>h2 _ f⟩
  |exit j=>
   dsimp only at m;split at m
   ·rename_i N;exact⟨_,_,m,λJ f=>h2 _ (by show if j=id then J .normal z else J (.exit j) z;rw [if_pos (zA N)];exact f)⟩
   ·rename_i N;exact⟨_,_,m,λJ f=>h2 _ (by show if j=id then J .normal z else J (.exit j) z;rw [if_neg (Nat.ne_of_beq_eq_false N)];exact f)⟩
 |loop c E=>intro st K h;exact aHD E O st K h
 |uloop c E=>intro st K h;exact aHD E O st K h
 |_=>intro st K h;exact h.elim
end Go.Sk
namespace Go.Sk
open Go Go.RowKit
variable [gL]
structure En(P:Program) where
 ext:Bool->FuncId->List Obj->List V->Option (V×List Obj)
 hext:∀own f ob0 args v ob1,ext own f ob0 args=some (v,ob1)->aM P f ob0 args v ob1
 qg:Option FuncId
 hq:∀g,qg=some g->Quiet P g
 md:FuncId->Nat->FuncId->Nat
 lf:Nat
 fz:FuncId->List Nat
abbrev bC4:=Nat->FuncId->List Obj->List V->(V->List Obj->Prop)->Prop
def FnB(P:Program)(md:Nat)(f:FuncId)(ob0:List Obj)(args:List V)(res:V)(ob1:List Obj):Prop:=
 match md with
 |3=>FnM P f ob0 args res ob1
 |_=>aM P f ob0 args res ob1
def bG3(P:Program)(run:bC4):Prop:=∀md f ob0 a K,run md f ob0 a K->∃res ob1,K res ob1/\FnB P md f ob0 a res ob1
def aJ6 {P:Program} (E:En P)(run:bC4)(caller:FuncId):Cx:=λd f args S m K=>
 match E.md caller d f with
 |1=>dI (aOH S args) λL=>match sD S L L with
  |some ob0=>mF ob0 λob0=>jX (args.map (arg2 L)) λa=>run 1 f ob0 a λres ob1=>rq (jJ L&&(Nat.ble L.length ob1.length&&Nat.ble ob1.length (L.length+16))) (K (aC7 L m res) (mA S L (ob1.map (lY L m)) m) (m+16))
  |none=>False
 |2=>dI (aZI args []) λL=>rq (args.all (puB S)&&args.all (aE3 L))<|jX (args.map (pur S)) λa=>run 0 f [] a λres ob1=>match ob1 with
  | []=>K res (kD S L) (m+1)
  |_::_=>False
 |3=>dI (aOH S args) λL=>match sD S L L with
  |some ob0=>mF ob0 λob0=>jX (args.map (arg2 L)) λa=>run 3 f ob0 a λres ob1=>rq (jJ L&&Nat.ble ob1.length 16) (K (aC7 [] m res) (mA (kD S L) [] (ob1.map (lY [] m)) m) (m+16))
  |none=>False
 |_=>rq (args.all (puB S))<|jX (args.map (pur S)) λa=>run 0 f [] a λres ob1=>match ob1 with
  | []=>rq (args.all aJT||aDU res) (K res S m)
  |_::_=>False
theorem aBG {S:aD} {L:List Nat} :∀ {l:List V},l.all (puB S)=true->l.all (aE3 L)=true->aO3 S L l
 | [],_,_=>trivial
 |v::r,e,h2=>by simp only [List.all_cons,zC] at e h2;exact⟨⟨bAL e.1,h2.1⟩,aBG e.2 h2.2⟩
theorem aXW {P:Program} (E:En P) {G:bC4} (H:bG3 P G)(C:FuncId):aV1 P (aJ6 E G C):=by
 intro d f R S m K h;simp only [aJ6] at h;split at h
 ·simp only [fZ] at h;split at h
  ·rename_i F D;simp only [rW,gB] at h;obtain⟨z,j,B,h2⟩:=H _ _ _ _ _ h;simp only [gI,zC] at B;obtain⟨⟨O,M,N⟩,J⟩:=B;exact⟨_,_,_,J,.inr (.inl ⟨rfl,λK' e=>⟨_,F,j,z,h2,oG D,O,M,N,e⟩⟩)⟩
  ·exact h.elim
 ·simp only [fZ,gI,gB,zC] at h;obtain⟨⟨Q,W⟩,h⟩:=h;obtain⟨z,j,B,h2⟩:=H _ _ _ _ _ h
  cases j with
  |cons o r=>exact B.elim
  |nil=>exact⟨_,_,_,B,.inr (.inr (.inl ⟨rfl,λK' e=>⟨_,z,h2,aBG Q W,e⟩⟩))⟩
 ·simp only [fZ] at h;split at h
  ·rename_i F D;simp only [rW,gB] at h;obtain⟨z,j,B,h2⟩:=H _ _ _ _ _ h;simp only [gI,zC] at B;obtain⟨⟨O,T⟩,J⟩:=B;exact⟨_,_,_,J,.inr (.inr (.inr ⟨rfl,λK' e=>⟨_,F,j,z,h2,oG D,O,T,e⟩⟩))⟩
  ·exact h.elim
 ·simp only [gI,gB] at h;obtain⟨Q,h⟩:=h;obtain⟨z,j,B,h2⟩:=H _ _ _ _ _ h
  cases j with
  |cons o r=>exact B.elim
  |nil=> dsimp only at B;rw [Bool.or_eq_true] at B;exact⟨_,_,_,B.2,.inl ⟨rfl,rfl,λK' e=>⟨z,λ_=>⟨λv Y=>bAL (List.all_eq_true.1 Q v Y),h2⟩,B.1,e⟩⟩⟩
def bEL(n0:Nat)(own:Bool)(dp:List Nat)(rvs:List RV)(K:V->List Obj->Prop)(e:Ex)(st:St):Prop:=
 match e with
 | .normal=>bC2 n0 own dp rvs K st
 | .ret=>bC2 n0 own dp rvs K st
 | .exit _=>False
theorem aM7 {P:Program} {n0:Nat} {m:Bool} {z:List Nat} {rvs:List RV} {K:V->List Obj->Prop} {e:Ex} {st:St} (h:bEL n0 m z rvs K e st):∃j f,K j f/\gR P n0 rvs j f e st:=by
 cases e with
 |normal=>exact aS4 h
 |ret=>exact aS4 h
 |exit id=>exact h.elim
def bTX(f:St->Prop)(e:Ex)(st:St):Prop:=
 match e with
 | .normal=>f st
 | .exit _=>False
 | .ret=>False
def bR6(a b:Option Nat):Bool:=
 match a,b with
 |some a,some b=>Nat.beq a b
 |_,_=>false
def aIW {P:Program} (E:En P):Nat->bC4
 |0=>λ_ _ _ _ _=>False
 |n+1=>λmd f ob0 args K=>match(match md with |3=>none |_=>E.ext (Nat.beq md 1) f ob0 args) with
  |some (v,ob1)=>jX [v] λl=>match l with |v::_=>mF ob1 λob1=>K v ob1 | []=>False
  |none=>match P.funcs[f]? with
   |some fn=>match fn.body,fn.results.toList.mapM (jR P) with
    |some c,some rvs=>rq (Nat.ble args.length fn.ntmps)<|cL 16 0 ob0.length λn0=>match aNO P c with
     |some (ca,o,g,cb)=>rq (bR6 (some g) E.qg&& !Nat.beq md 3)<|match aPH P fn.ntmps (lJ rvs) [] ca cb with
      |some (ra,rb)=>nW P (aJ6 E (aIW E n) f) E.lf ra ⟨dV 0 args,aI 0 ob0,n0⟩ (bTX λst=>nW P (aJ6 E (aIW E n) f) E.lf rb st (bEL n0 (Nat.beq md 1) (E.fz f) rvs K))
      |none=>False
     |none=>match aI9 P fn.ntmps (lJ rvs) [] c with
      |some rc=>match md with
       |3=>nW P (aJ6 E (aIW E n) f) E.lf rc ⟨dV 0 args,aI 0 ob0,n0⟩ (bEL 0 true (E.fz f) rvs K)
       |_=>nW P (aJ6 E (aIW E n) f) E.lf rc ⟨dV 0 args,aI 0 ob0,n0⟩ (bEL n0 (Nat.beq md 1) (E.fz f) rvs K)
      |none=>False
    |_,_=>False
   |none=>False
theorem aQ6 {P:Program} {m:Nat} {f:FuncId} {ob0 e:List Obj} {args:List V} {j:V} (hm:m≠3)(h:aM P f ob0 args j e):FnB P m f ob0 args j e:=by
 unfold FnB;split
 ·exact absurd rfl hm
 ·exact h
theorem aM8 {P:Program} (E:En P):∀n,bG3 P (aIW E n)
 |0=>λ_ _ _ _ _ h=>h.elim
 |n+1=>by
  intro md f ob0 args K h;have B:=aXW E (aM8 E n) f;simp only [aIW] at h;split at h
  ·rename_i v j N;simp only [gB,rW] at h;split at N
   ·cases N
   ·rename_i F;exact⟨v,j,h,aQ6 (λe=>F e) (E.hext _ _ _ _ _ _ N)⟩
  ·split at h
   ·rename_i fn O;split at h
    ·rename_i c rvs T G;rw [gI,dS] at h;obtain⟨Q,h⟩:=h;have D:fn.body.isSome=true:=by rw [T];rfl
     have hg:fn.body.getD .skip=c:=by rw [T];rfl
     split at h
     ·rename_i ca o g cb Z;rw [gI,zC] at h;obtain⟨⟨H,F⟩,h⟩:=h;have F:md≠3:=λe=>by subst e;cases F
      have H:E.qg=some g:=by
       cases R:E.qg with
       |none=>rw [R] at H;cases H
       |some W=>rw [R] at H;rw [zA (show Nat.beq g W=true from H)]
      split at h
      ·rename_i ra rb m;obtain⟨s1,s2⟩:=aEN m;obtain⟨e,M,C,h2⟩:=vH B E.lf ob0.length ra _ _ h
       cases e with
       |exit id=>exact C.elim
       |ret=>exact C.elim
       |normal=> obtain⟨e2,aa,Y,h4⟩:=vH B E.lf ob0.length rb _ _ C;obtain⟨z,j,h5,J⟩:=aM7 (P:=P) Y;exact⟨z,j,h5,aQ6 F (aSS O D (by rw [hg];exact Z) (E.hq g H) (by rw [iX];exact s1) (by rw [iX];exact s2) G (zE Q) (h2 _ (h4 _ J)))⟩
      ·exact h.elim
     ·split at h
      ·rename_i rc m;split at h
       ·obtain⟨e,M,C,h2⟩:=vH B E.lf 0 rc _ _ h;obtain⟨z,j,h5,J⟩:=aM7 (P:=P) C;exact⟨z,j,h5,aYJ O D (by rw [iX,hg];exact oN m) G (zE Q) (h2 _ J)⟩
       ·rename_i F;obtain⟨e,M,C,h2⟩:=vH B E.lf ob0.length rc _ _ h;obtain⟨z,j,h5,J⟩:=aM7 (P:=P) C;exact⟨z,j,h5,aQ6 (λe=>F e) (bGD O D (by rw [iX,hg];exact oN m) G (zE Q) (h2 _ J))⟩
      ·exact h.elim
    ·exact h.elim
   ·exact h.elim
def isTrue(v:V)(obs:List Obj):Prop:=
 match v,obs with
 | .bool true,[]=>True
 |_,_=>False
theorem bB6 {P:Program} (E:En P)(n:Nat) {f:FuncId} {args:List V} (h:aIW E n 0 f [] args isTrue=True):aM P f [] args (.bool true) []:=by
 have h:aIW E n 0 f [] args isTrue:=by rw [h];trivial
 obtain⟨m,j,e,h2⟩:=aM8 E n _ _ _ _ _ h;unfold isTrue at e;split at e
 ·exact h2
 ·exact e.elim
def isEq(u v:V)(obs:List Obj):Prop:=
 match obs with
 | []=>match eqV 12 u v with
   |true=>True
   |false=>False
 |_::_=>False
theorem run_eq {P:Program} (E:En P)(n:Nat) {f:FuncId} {args:List V} {v:V} (h:aIW E n 0 f [] args (isEq v)=True):aM P f [] args v []:=by
 have h:aIW E n 0 f [] args (isEq v):=by rw [h];trivial
 obtain⟨z,m,e,h2⟩:=aM8 E n _ _ _ _ _ h;unfold isEq at e;split at e
 ·split at e
  ·rename_i j;rw [aCZ 12 _ _ j];exact h2
  ·exact e.elim
 ·exact e.elim
end Go.Sk
namespace Go.Sk
open Go Go.RowKit
variable [gL]
def LeV(x y:V):Prop:=∀(O:Nat->Prop) (w:World) (σ:Sg) (v:Value),VR O w σ x v->VR O w σ y v
theorem LeV.refl(v:V):LeV v v:=λ_ _ _ _ h=>h
theorem VR.le {O:Nat->Prop} {w:World} {σ:Sg} {x y:V} {v:Value} (hv:VR O w σ x v)(h:LeV x y):VR O w σ y v:=h O w σ v hv
def nD(xs ys:List V):Prop:=xs.length=ys.length/\∀(c:Nat) (u v:V),xs[c]? =some u->ys[c]? =some v->LeV u v
theorem nD.refl(xs:List V):nD xs xs:=⟨rfl,λc u v f e=>by rw [f] at e;obtain rfl:=zsi e;exact .refl u⟩
theorem nD.nil:nD [] []:=.refl []
theorem nD.cons {x y:V} {xs ys:List V} (h:LeV x y)(j:nD xs ys):nD (x::xs) (y::ys):=by
 refine⟨by simp [j.1],λc u v e f=>?_⟩
 cases c with
 |zero=> simp only [zH,zse] at e f;subst e f;exact h
 |succ c=>exact j.2 c u v (by simpa using e) (by simpa using f)
theorem nD.get {xs ys:List V} (h:nD xs ys)(i:Nat)(y:V)(f:ys[i]? =some y):∃x,xs[i]? =some x/\LeV x y:=by obtain⟨j,-⟩:=List.getElem?_eq_some_iff.1 f;have e:=zD (l:=xs) (i:=i) (by rw [h.1];exact j);exact⟨_,e,h.2 i _ y e f⟩
theorem LeV.lst {es es':Nat} {t R:Bool} {xs ys:List (List V)} (W:es'=es\/xs=[])(Q:t=true->R=true)(C:xs.length=ys.length)
 (h:∀(i:Nat) (x y:List V),xs[i]? =some x->ys[i]? =some y->nD x y):LeV (.lst es' R xs) (.lst es t ys):=by
 intro O w σ v hv
 cases hv with
 | @lst _ _ _ _ a cap b o N T J j z F H G=>
   have D:∀(i:Nat) (y:List V),ys[i]? =some y->∃x,xs[i]? =some x/\i<xs.length:=λi y D=>by obtain⟨m,-⟩:=List.getElem?_eq_some_iff.1 D;have :=zD (l:=xs) (i:=i) (by omega);exact⟨_,this,by omega⟩
   rcases W with rfl |rfl
   ·rw [C];refine .lst b o N (λZ=>T (λe=>Z (List.length_eq_zero_iff.1 (by rw [<-C,e];rfl)))) (λy f=>?_) (by omega) (λY=>by rw [<-C];exact z (Q Y)) (λi c m E=>F i c (by omega) E) (λi c m E=>H i c (by omega) E) λi y c v' f M=>?_
    ·obtain⟨i,m⟩:=zJ f;obtain⟨x,B,-⟩:=D i y m;rw [<-(h i x y B m).1];exact J x (zF B)
    ·obtain⟨x,B,-⟩:=D i y f;obtain⟨u,hu,K⟩:=(h i x y B f).get c v' M;exact(G i x c u B hu).le K
   ·obtain rfl:ys=[]:=List.length_eq_zero_iff.1 (by rw [<-C];rfl);exact .lst (xs:= []) b o N (by simp) (by simp) j (λY=>z (Q Y)) (by simp) (by simp) (by simp)
theorem LeV.aggs {xs ys:List V} (h:nD xs ys):LeV (.agg xs) (.agg ys):=λO w σ v z=>by
 cases z with
 |agg j f=> refine .agg (by rw [j,h.1]) λi y u C m=>?_;obtain⟨x,B,e⟩:=h.get i y C;exact(f i x u B m).le e
theorem LeV.tups {xs ys:List V} (h:nD xs ys):LeV (.tup xs) (.tup ys):=λO w σ v z=>by
 cases z with
 |tup j f=> refine .tup (by rw [j,h.1]) λi y u C m=>?_;obtain⟨x,B,e⟩:=h.get i y C;exact(f i x u B m).le e
theorem LeV.rows {α:Type} {es:Nat} {t B:Bool} {l:List α} {f g:α->List V} (C:t=true->B=true)(h:∀x∈l,nD (f x) (g x)):LeV (.lst es B (l.map f)) (.lst es t (l.map g)):=by refine .lst (.inl rfl) C (by simp) λi x y m z=>?_;rw [List.getElem?_map,Option.map_eq_some_iff] at m z;obtain⟨a,e,rfl⟩:=m;obtain⟨b,j,rfl⟩:=z;rw [e] at j;obtain rfl:=zsi j;exact h a (zF e)
theorem LeV.weak {es:Nat} {t:Bool} {xs:List (List V)} :LeV (.lst es t xs) (.lst es false xs):= .lst (.inl rfl) (by simp) rfl λi x y f e=>by rw [f] at e;obtain rfl:=zsi e;exact nD.refl x
theorem LeV.nils {es es':Nat} {t:Bool} :LeV (.lst es' t []) (.lst es false []):=.lst (.inr rfl) (by simp) rfl (by simp)
def LeO:Obj->Obj->Prop
 | .row es xs,.row es' ys=>es'=es/\xs.length=ys.length/\∀(i:Nat) (x y:List V),xs[i]? =some x->ys[i]? =some y->nD x y
 | .box xs,.box ys=>nD xs ys
 | .mp xs,.mp ys=>ys=xs
 | .bb xs,.bb ys=>ys=xs
 |_,_=>False
def pP:List Obj->List Obj->Prop
 | [],[]=>True
 |x::xs,y::ys=>LeO x y/\pP xs ys
 |_,_=>False
theorem LeO.refl(o:Obj):LeO o o:=by
 cases o with
 |row es xs=>exact⟨rfl,rfl,λi x y f e=>by rw [f] at e;obtain rfl:=zsi e;exact nD.refl x⟩
 |box xs=>exact nD.refl xs
 |mp xs=>rfl
 |bb l=>rfl
theorem pP.refl:∀l:List Obj,pP l l
 | []=>trivial
 |o::r=>⟨LeO.refl o,pP.refl r⟩
theorem pP.get:∀ {xs ys:List Obj},pP xs ys->xs.length=ys.length/\∀(i:Nat) (y:Obj),ys[i]? =some y->∃x,xs[i]? =some x/\LeO x y
 | [],[],_=>⟨rfl,by simp⟩
 | [],_::_,h=>h.elim
 |_::_,[],h=>h.elim
 |x::xs,y::ys,h=>by
  obtain⟨f,h2⟩:=pP.get h.2;refine⟨by simp [f],λi z e=>?_⟩
  cases i with
  |zero=>simp only [zH,zse] at e;subst e;exact⟨x,rfl,h.1⟩
  |succ i=>exact h2 i z (by simpa using e)
theorem lM.le {O:Nat->Prop} {w:World} {σ:Sg} {j:Option (Option Nat×Nat×Nat)} {x y:Obj} (h:lM O w σ j x)(e:LeO x y):lM O w σ j y:=by
 cases x with
 |row es xs=>
  cases y with
  |box _=>exact e.elim
  |mp _=>exact e.elim
  |bb _=>exact e.elim
  |row H F=>
   obtain⟨rfl,T,M⟩:=e;obtain⟨Y,h2⟩:=h;have C:∀(i:Nat) (y:List V),F[i]? =some y->∃x,xs[i]? =some x/\nD x y:=λi y m=>by obtain⟨R,-⟩:=List.getElem?_eq_some_iff.1 m;have :=zD (l:=xs) (i:=i) (by omega);exact⟨_,this,M i _ y this m⟩
   refine⟨λy m=>?_,?_⟩
   ·obtain⟨i,R⟩:=zJ m;obtain⟨x,K,e⟩:=C i y R;rw [<-e.1];exact Y x (zF K)
   ·rcases j with _ | ⟨_ |b,H,cap⟩
    ·exact h2
    ·obtain⟨e1,z,B⟩:=h2;subst B;exact⟨e1,z,List.length_eq_zero_iff.1 (by rw [<-T];rfl)⟩
    ·obtain⟨e1,z,f,Q,B,G,W⟩:=h2;refine⟨e1,by rw [<-T];exact z,f,Q,B,G,λi y c v m E=>?_⟩;obtain⟨x,K,e⟩:=C i y m;obtain⟨J,-⟩:=List.getElem?_eq_some_iff.1 E;have D:=zD (l:=x) (i:=c) (by rw [e.1];exact J);obtain⟨u,q1,q2,N⟩:=W i x c _ K D;exact⟨u,q1,q2,N.le (e.2 c _ v D E)⟩
 |box xs=>
  cases y with
  |row _ _=>exact e.elim
  |mp _=>exact e.elim
  |bb _=>exact e.elim
  |box F=> obtain⟨b,e1,f,Q,z,B,G⟩:=h;refine⟨b,by rw [e1,e.1],f,Q,z,by rw [B,e.1],λc v E=>?_⟩;obtain⟨J,-⟩:=List.getElem?_eq_some_iff.1 E;have D:=zD (l:=xs) (i:=c) (by rw [e.1];exact J);obtain⟨u,q1,q2,N⟩:=G c _ D;exact⟨u,q1,q2,N.le (e.2 c _ v D E)⟩
 |mp xs=>
  cases y with
  |row _ _=>exact e.elim
  |box _=>exact e.elim
  |bb _=>exact e.elim
  |mp F=>obtain rfl:=e;exact h
 |bb xs=>
  cases y with
  |row _ _=>exact e.elim
  |box _=>exact e.elim
  |mp _=>exact e.elim
  |bb F=>obtain rfl:=e;exact h
theorem aM.le {P:Program} {f:FuncId} {ob0 C m:List Obj} {args z:List V} {O G:V} (h:aM P f ob0 args O C)(Y:nD z args)(hr:LeV O G)(ho:pP C m):aM P f ob0 z G m:=by
 intro U σ w H hR hl J;obtain⟨hol,ab⟩:=ho.get;have E:∀(j:Nat) (o:Obj),(aI 0 m).get j=some o->∃F,(aI 0 C).get j=some F/\LeO F o:=by intro j o hj;rw [eV,if_pos (zM _),zL] at hj;obtain⟨x,hx,aa⟩:=ab j o hj;exact⟨x,by rw [eV,if_pos (zM _),zL];exact hx,aa⟩
 refine(h U σ w H hR (by rw [hl,Y.1]) λi v c R hc=>?_).mono λe w' ⟨cv,Q,he,B,R,g⟩=>?_
 ·obtain⟨hi,-⟩:=List.getElem?_eq_some_iff.1 R;have hu:=zD (l:=z) (i:=i) (by rw [Y.1];exact hi);exact(J i _ c hu hc).le (Y.2 i _ v hu R)
 ·have K:∀b,fD Q (aI 0 m) b->fD Q (aI 0 C) b:=λb ⟨k,o,es,cap,N,h2⟩=>by obtain⟨F,W,-⟩:=E k o N;exact⟨k,F,es,cap,W,h2⟩
  have D:∀b,Own U Q (aI 0 m) b->Own U Q (aI 0 C) b:=λb h=>h.imp id (K b);refine⟨cv,Q,he,⟨λk o hk=>?_,λk k' o F b es cap T M N h2=>?_,λk hk=>?_,λb Z=>B.disj b (K b Z),B.ulim,B.gl.less D⟩,(R.le hr).mono (cG.refl _ _) (λb _ h=>D b h) λ_ _=>rfl,⟨g.keep,λb Z hO=>g.own b Z (K b hO),g.sg,by rw [<-hol];exact g.nx⟩⟩
  ·obtain⟨F,N,h2⟩:=E k o hk;exact(((B.obj k F N).less D).le h2)
  ·obtain⟨p,W,-⟩:=E k o N;obtain⟨p',h4,-⟩:=E k' F h2;exact B.inj k k' p p' b es cap T M W h4
  ·refine⟨?_,(B.fresh k (by omega)).2⟩;rw [eV,if_pos (zM _),zL,List.getElem?_eq_none (by omega)]
end Go.Sk
