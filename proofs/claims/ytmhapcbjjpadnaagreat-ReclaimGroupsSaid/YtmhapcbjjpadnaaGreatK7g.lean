/- Caches. -/
import Derived.Test.YtmhapcbjjpadnaaGreatK6g
set_option linter.all false
open Bool renaming and_eq_true→zC
open List renaming getElem?_eq_getElem→zD,mem_of_getElem?→zF,getElem?_cons_succ→zG,getElem?_cons_zero→zH,mem_cons_of_mem→zI,getElem?_of_mem→zJ,mem_singleton→zK
open Nat renaming eq_of_beq_eq_true→zA,le_of_ble_eq_true→zE,sub_zero→zL,zero_le→zM
namespace Go.Sk
open Go Go.RowKit
variable [gI]
def aQO(S:aD):V->Bool
 | .sl k off len=>match S.get k with
   |some (.row _ xs)=>Nat.ble (off+len) xs.length
   |_=>true
 | .slk k off len _=>match S.get k with
   |some (.row _ xs)=>Nat.ble (off+len) xs.length
   |_=>true
 | .ptr k i _=>match S.get k with
   |some (.box cs)=>Nat.beq i 0&&cs.all cI
   |_=>true
 |_=>true
def puB(S:aD):V->Bool
 | .agg cs=>cs.all (aQO S)
 | .fn _ cs=>cs.all (aQO S)
 |v=>aQO S v
theorem aL9 {S:aD} {v:V} (h:aQO S v=true):jV S v:=by
 cases v <;> simp only [jV] <;> try trivial
 all_goals
  simp only [aQO] at h;split
  ·rename_i h1;simp only [h1] at h
   first
    |exact zE h
    | (rw [zC] at h;exact⟨zA h.1,h.2⟩)
  ·trivial
theorem aZW {S:aD} {v:V} (h:puB S v=true):oS S v:=by
 have e:(∃j,v=.agg j)\/(∃f j,v=.fn f j)\/(puB S v=aQO S v/\oS S v=jV S v):=by cases v <;> simp [puB,oS]
 rcases e with ⟨j,rfl⟩| ⟨f,j,rfl⟩| ⟨h1,h2⟩
 ·exact λc hc=>aL9 (List.all_eq_true.1 h c hc)
 ·exact λc hc=>aL9 (List.all_eq_true.1 h c hc)
 ·rw [h1] at h;rw [h2];exact aL9 h
def addN(k:Nat)(l:List Nat):List Nat:=match iS k l with |true=>l |false=>l++ [k]
def nm1:V->List Nat->List Nat
 | .ptr k _ _,l=>addN k l
 | .sl k _ _,l=>addN k l
 | .slx k _ _,l=>addN k l
 | .slk k _ _ _,l=>addN k l
 | .mp k,l=>addN k l
 |_,l=>l
def aNV:List V->List Nat->List Nat
 | [],l=>l
 |v::r,l=>aNV r (nm1 v l)
def nm2:V->List Nat->List Nat
 | .agg cs,l=>aNV cs l
 | .fn _ cs,l=>aNV cs l
 | .tup cs,l=>nmT cs l
 |v,l=>nm1 v l
where nmT:List V->List Nat->List Nat
 | [],l=>l
 | .agg cs::r,l=>nmT r (aNV cs l)
 | .fn _ cs::r,l=>nmT r (aNV cs l)
 |v::r,l=>nmT r (nm1 v l)
def aYO:List V->List Nat->List Nat
 | [],l=>l
 |v::r,l=>aYO r (nm2 v l)
def nmB(S:aD):List Nat->List Nat->List Nat
 | [],l=>l
 |k::r,l=>match S.get k with
  |some (.box cs)=>nmB S r (aNV cs l)
  |_=>nmB S r l
def aNO(S:aD)(args:List V):List Nat:=
 let l:=aYO args []
 let l:=nmB S l l
 nmB S l l
def rV(S:aD)(L0:List Nat):List Nat->Option (List Obj)
 | []=>some []
 |k::L=>match S.get k,rV S L0 L with
  |some p,some obs=>some (aUA L0 p::obs)
  |_,_=>none
theorem nT {S:aD} {e:List Nat} :∀ {L:List Nat} {obs:List Obj},rV S e L=some obs->pM S e L obs
 | [],obs,h=>by obtain rfl:=zsi h;trivial
 |k::L,obs,h=>by
  simp only [rV] at h;split at h
  ·rename_i p f h1 h2;obtain rfl:=zsi h;refine⟨?_,nT h2⟩;rw [h1]
  ·cases h
def lT:List Obj->(List Obj->Prop)->Prop
 | [],K=>K []
 | .row es xs::r,K=>lT r λr=>K (.row es xs::r)
 | .box cs::r,K=>jN cs λcs=>lT r λr=>K (.box cs::r)
 | .mp xs::r,K=>lT r λr=>K (.mp xs::r)
 | .bb l::r,K=>lT r λr=>K (.bb l::r)
theorem rO(l:List Obj)(K:List Obj->Prop):lT l K=K l:=by
 induction l generalizing K with
 |nil=>rfl
 |cons o r e=>cases o <;> simp only [lT,fU,e]
def aCZ(k:Nat):List (Option Nat)->Nat->Option Nat
 | [],_=>none
 |some h::t,j=>match Nat.beq k h with
  |true=>some j
  |false=>aCZ k t (j+1)
 |none::t,j=>aCZ k t (j+1)
theorem qQ:∀ {k:Nat} {L:List (Option Nat)} {i j:Nat},aCZ k L i=some j->i<=j/\L[j-i]? =some (some k)
 |_,[],_,_,h=>by simp [aCZ] at h
 |k,some h::t,i,j,e=>by
  simp only [aCZ] at e;split at e
  ·rename_i f;obtain rfl:=zsi e;rw [zA f];simp
  ·obtain⟨h1,h2⟩:=qQ e;refine⟨by omega,?_⟩;rw [show j-i=(j- (i+1))+1 by omega,zG];exact h2
 |k,none::t,i,j,e=>by simp only [aCZ] at e;obtain⟨h1,h2⟩:=qQ e;refine⟨by omega,?_⟩;rw [show j-i=(j- (i+1))+1 by omega,zG];exact h2
theorem vB:∀ {k:Nat} {L:List (Option Nat)} {i:Nat},aCZ k L i=none->aGA k L=false
 |_,[],_,_=>rfl
 |k,some h::t,i,e=>by
  simp only [aCZ] at e;split at e
  ·cases e
  ·rename_i f;simp only [aGA,f,Bool.false_or];exact vB e
 |k,none::t,i,e=>by simp only [aCZ] at e;simp only [aGA];exact vB e
def aAW(S:aD)(ids:List (Option Nat)):V->V
 | .sl k off len=>match aCZ k ids 0 with
   |some j=>.sl j off len
   |none=>match S.get k with
    |some (.row es xs)=>match Nat.ble (off+len) xs.length with
     |true=>.lst es false ((xs.drop off).take len)
     |false=>.any
    |_=>.any
 | .slk k off len c=>match aCZ k ids 0 with
   |some j=>.slk j off len c
   |none=>match S.get k with
    |some (.row es xs)=>match Nat.ble (off+len) xs.length with
     |true=>.lst es false ((xs.drop off).take len)
     |false=>.any
    |_=>.any
 | .ptr k i c=>match aCZ k ids 0 with
   |some j=>.ptr j i c
   |none=>.any
 | .mp k=>match aCZ k ids 0 with
   |some j=>.mp j
   |none=>.any
 | .lst es t xs=>.lst es t xs
 | .int k n=>.int k n
 | .bool b=>.bool b
 | .str s=>.str s
 | .nil=>.nil
 | .val v=>.val v
 | .rp es cs c=>.rp es cs c
 |_=>.any
theorem aFD(S:aD)(ids:List (Option Nat))(x:V):vw1 S ids x (aAW S ids x):=by
 cases x with
 |sl k B len=>
  simp only [aAW];split
  ·rename_i j e;have :=(qQ e).2;exact⟨by simpa using this,rfl,rfl⟩
  ·rename_i m;split
   ·rename_i es xs z;split
    ·rename_i f;simp [vw1,z,vB m,zE f]
    ·trivial
   ·trivial
 |slk k B len c=>
  simp only [aAW];split
  ·rename_i j e;have :=(qQ e).2;exact⟨by simpa using this,rfl,rfl,rfl⟩
  ·rename_i m;split
   ·rename_i es xs z;split
    ·rename_i f;simp [vw1,z,vB m,zE f]
    ·trivial
   ·trivial
 |ptr k i c=>
  simp only [aAW];split
  ·rename_i j e;have :=(qQ e).2;exact⟨by simpa using this,rfl,rfl⟩
  ·trivial
 |mp k=>
  simp only [aAW];split
  ·rename_i j e;have :=(qQ e).2;simpa [vw1] using this
  ·trivial
 |lst es t xs=>exact⟨.inl rfl,id,rfl⟩
 |int k n=>exact⟨rfl,rfl⟩
 |bool b=>rfl
 |str s=>rfl
 |nil=>rfl
 |val v=>rfl
 |rp es C c=>rfl
 |_=>trivial
theorem tC {p:V->V->Prop} {f:V->V} (h:∀x,p x (f x)):∀xs:List V,aMC p xs (xs.map f)
 | []=>trivial
 |x::r=>⟨h x,tC h r⟩
def aN9(S:aD)(ids:List (Option Nat)):V->V
 | .agg cs=>.agg (cs.map (aAW S ids))
 | .fn f cs=>.fn f (cs.map (aAW S ids))
 |v=>aAW S ids v
theorem aCD(S:aD)(ids:List (Option Nat))(x:V):(∀cs,aAW S ids x≠ .agg cs)/\(∀f cs,aAW S ids x≠ .fn f cs)/\∀cs,aAW S ids x≠ .tup cs:=by
 cases x <;> simp only [aAW] <;>(repeat' split)<;> refine⟨?_,?_,?_⟩<;> intros <;> simp
theorem bEN {S:aD} {ids:List (Option Nat)} {x y:V} (h:vw1 S ids x y)(h1:∀cs,y≠ .agg cs)(h2:∀f cs,y≠ .fn f cs):vw2 S ids x y:=by
 unfold vw2;split
 ·exact absurd rfl (h1 _)
 ·exact absurd rfl (h2 _ _)
 ·exact h
theorem aG5(S:aD)(ids:List (Option Nat))(x:V):(∃cs,x=.agg cs)\/(∃f cs,x=.fn f cs)\/aN9 S ids x=aAW S ids x:=by
 cases x <;> simp [aN9]
theorem aTT(S:aD)(ids:List (Option Nat))(x:V):vw2 S ids x (aN9 S ids x):=by
 rcases aG5 S ids x with ⟨e,rfl⟩| ⟨f,e,rfl⟩|h
 ·exact tC (aFD S ids) e
 ·exact⟨rfl,tC (aFD S ids) e⟩
 ·rw [h];exact bEN (aFD S ids x) (aCD S ids x).1 (aCD S ids x).2.1
def bCS(S:aD)(ids:List (Option Nat)):V->V
 | .tup cs=>.tup (cs.map (aN9 S ids))
 |v=>aN9 S ids v
theorem aUU(S:aD)(ids:List (Option Nat))(x:V):∀cs,aN9 S ids x≠ .tup cs:=by
 rcases aG5 S ids x with ⟨cs,rfl⟩| ⟨f,cs,rfl⟩|h
 ·intro cs h;cases h
 ·intro cs h;cases h
 ·rw [h];exact(aCD S ids x).2.2
theorem bEO(S:aD)(ids:List (Option Nat))(x:V):vw3 S ids x (bCS S ids x):=by
 have e:(∃f,x=.tup f)\/bCS S ids x=aN9 S ids x:=by cases x <;> simp [bCS]
 rcases e with ⟨f,rfl⟩|h
 ·exact tC (aTT S ids) f
 ·rw [h];have j:=aUU S ids x;have m:=aTT S ids x;generalize aN9 S ids x=y at j m;unfold vw3;split
  ·exact absurd rfl (j _)
  ·exact m
def bR9(S:aD)(ids:List (Option Nat)):Obj->Obj
 | .row es xs=>.row es xs
 | .box cs=>.box (cs.map (aAW S ids))
 | .mp xs=>.mp xs
 | .bb l=>.bb l
def bDE(S:aD)(ids:List (Option Nat)):List (Option Nat)->Option (List Obj)
 | []=>some []
 |some k::r=>match S.get k,bDE S ids r with
  |some o,some os=>some (bR9 S ids o::os)
  |_,_=>none
 |none::_=>none
theorem aSM {S:aD} {ids:List (Option Nat)} :∀ {l:List (Option Nat)} {e:List Obj},bDE S ids l=some e->oY S ids l e
 | [],e,h=>by obtain rfl:=zsi h;trivial
 |some k::r,e,h=>by
  simp only [bDE] at h;split at h
  ·rename_i o j h1 h2;obtain rfl:=zsi h;refine⟨?_,aSM h2⟩;rw [h1]
   cases o with
   |row es xs=>exact⟨rfl,rfl⟩
   |box f=>exact tC (aFD S ids) f
   |mp xs=>rfl
   |bb l=>rfl
  ·cases h
 |none::r,e,h=>by cases h
def aG3:Nat->Nat->List (Option Nat)
 |_,0=> []
 |i,n+1=>some i::aG3 (i+1) n
theorem aDK:∀(n i:Nat) (r:List (Option Nat)),oL i n (aG3 i n++r)
 |0,_,_=>by simp [oL]
 |n+1,i,r=>⟨rfl,aDK n (i+1) r⟩
def aLJ(n0:Nat):List Nat->List (Option Nat)
 | []=> []
 |k::r=>match Nat.blt k n0 with
  |true=>aLJ n0 r
  |false=>some k::aLJ n0 r
def aPX:List Nat->Nat->List (Option Nat)->List (Option Nat)
 |_,_,[]=> []
 |dp,i,x::r=>match iS i dp with
  |true=>aPX dp (i+1) r
  |false=>x::aPX dp (i+1) r
def bMO(own:Bool)(dp:List Nat)(n0:Nat)(S:aD)(v:V):List (Option Nat):=
 aG3 0 n0++(match own with
  |true=>aPX dp 0 (aLJ n0 (nmB S (nm2 v []) (nm2 v [])))
  |false=> [])
def rvF(st:St):RV->(V->Prop)->Prop
 | .tmp t,K=>K (bP st.sl [] (.t t))
 | .cell t agg n,K=>rdF st.so (.ld agg n (.t t)) (bP st.sl []) true K
def bED(st:St):List RV->(List V->Prop)->Prop
 | [],K=>K []
 |r::rs,K=>rvF st r λv=>nN v λv=>bED st rs λvs=>K (v::vs)
theorem aTE(st:St):∀(l:List RV) (K:List V->Prop),bED st l K=aID st l K
 | [],_=>rfl
 |r::rs,K=>by
  simp only [bED,aID,iR,aTE st rs]
  cases r with
  |tmp t=>rfl
  |cell t agg n=>simp only [rvF,rvK,aQQ]
def bBK(n0:Nat)(own:Bool)(dp:List Nat)(rvs:List RV)(K:V->List Obj->Prop)(st:St):Prop:=
 bED st rvs λvs=>match bMO own dp n0 st.so (aQH vs) with
  |ids=>match bDE st.so ids ids with
   |some ob1=>rq (rX ids&&Nat.ble n0 ob1.length) (lT ob1 λob1=>nN (bCS st.so ids (aQH vs)) λv=>K v ob1)
   |none=>False
theorem aYD {S:aD} {agg:Bool} {n:Nat} {x:A} {e:A->V} {j:Bool} {K f:V->Prop} (hm:∀v,K v->f v)(h:gL S (.ld agg n x) e j K):gL S (.ld agg n x) e j f:=by
 simp only [gL] at h⊢;split at h
 ·split at h
  ·exact⟨h.1,h.2.1,hm _ h.2.2⟩
  ·exact⟨h.1,hm _ h.2⟩
  ·exact⟨h.1,hm _ h.2⟩
 ·exact⟨h.1,hm _ h.2⟩
 ·exact⟨h.1,hm _ h.2⟩
theorem aD5 {st:St} :∀ {l:List RV} {K:List V->Prop},aID st l K->∃vs,K vs/\∀j,j vs->aID st l j
 | [],K,h=>⟨[],h,λ_ h=>h⟩
 |r::rs,K,h=>by
  simp only [aID] at h
  cases r with
  |tmp t=> obtain⟨vs,h1,h2⟩:=aD5 (l:=rs) (K:=λvs=>K (bP st.sl [] (.t t)::vs)) h;exact⟨_,h1,λj f=>h2 _ f⟩
  |cell t agg n=> obtain⟨v,h1,h2⟩:=aLD (show gL st.so (.ld agg n (.t t)) (bP st.sl []) true (λv=>aID st rs λvs=>K (v::vs)) from h);obtain⟨vs,m,h4⟩:=aD5 h1;refine⟨v::vs,m,λj f=>?_⟩;simp only [aID,rvK];exact aYD (λv' e=>by subst e;exact h4 _ f) h2
theorem aRB {n0:Nat} {m:Bool} {z:List Nat} {rvs:List RV} {K:V->List Obj->Prop} {st:St} (h:bBK n0 m z rvs K st):∃f e,K f e/\aM6 n0 rvs f e st:=by
 unfold bBK at h;rw [aTE] at h;obtain⟨vs,h1,h2⟩:=aD5 h;dsimp only at h1;split at h1
 ·rename_i e j;rw [gG,rO,iR,zC] at h1;obtain⟨⟨D,B⟩,C⟩:=h1;exact⟨_,_,C,h2 _ ⟨_,aSM j,D,aDK n0 0 _,B,bEO _ _ _⟩⟩
 ·exact h1.elim
end Go.Sk
namespace Go.Sk
open Go Go.RowKit
variable [gI]
theorem aUC {op:BinOp} {k:IntKind} {a b:Int} {f:Bool} {K e:V->Prop} (hm:∀v,K v->e v)(h:aEG op k a b f K):aEG op k a b f e:=by
 cases op <;> simp only [aEG] at h⊢<;> first |exact hm _ h |exact⟨h.1,hm _ h.2⟩
theorem bA0 {S:aD} {i:I} {e:A->V} {j:Bool} {K f:V->Prop} (hm:∀v,K v->f v)(h:gL S i e j K):gL S i e j f:=by
 revert h;unfold gL
 repeat' split
 all_goals intro h
 all_goals first
  |exact h.elim
  |exact⟨h.1,aUC hm h.2⟩
  |exact pZ (λr=>hm _) h
  |exact hm _ h
  |exact⟨h.1,hm _ h.2⟩
  |exact⟨h.1,h.2.1,hm _ h.2.2⟩
theorem aP1 {S:aD} {n:Nat} {i:I} {e:A->V} {K f:V->aD->Nat->Prop} (hm:∀a b c,K a b c->f a b c)(h:oZ S n i e K):oZ S n i e f:=by
 revert h;unfold oZ
 repeat' split
 all_goals intro h
 all_goals first
  |exact h.elim
  |exact hm _ _ _ h
  |exact⟨h.1,hm _ _ _ h.2⟩
  |exact⟨h.1,h.2.1,hm _ _ _ h.2.2⟩
  |exact⟨h.1,h.2.1,h.2.2.1,hm _ _ _ h.2.2.2⟩
  |exact⟨h.1,h.2.1,h.2.2.1,h.2.2.2.1,hm _ _ _ h.2.2.2.2⟩
  |exact⟨h.1,h.2.1,h.2.2.1,h.2.2.2.1,h.2.2.2.2.1,hm _ _ _ h.2.2.2.2.2⟩
  | (obtain⟨h1,h2,j⟩:=h
     revert j
     repeat' split
     all_goals intro h
     all_goals first
      |exact h.elim
      |exact⟨h1,h2,h.1,h.2.1,hm _ _ _ h.2.2⟩
      |exact⟨h1,h2,h.1,h.2.1,h.2.2.1,h.2.2.2.1,h.2.2.2.2.1,hm _ _ _ h.2.2.2.2.2⟩)
theorem aGJ {P:Program} {ssl:aY} {j:aD} {m:Nat} {ch:List (Nat×Bool)} {C:Bool} {i:I} {K F:V->aD->Nat->Prop} (hm:∀a b c,K a b c->F a b c)(h:dJ P ssl j m ch C i K):dJ P ssl j m ch C i F:=by
 have W:∀i,dJ P ssl j m ch C i K->(∀K,dJ P ssl j m ch C i K=gL j i (bP ssl ch) C λv=>K v j m)->dJ P ssl j m ch C i F:=by intro i h T;rw [T] at h⊢;exact bA0 (λv=>hm _ _ _) h
 have E:∀i,dJ P ssl j m ch C i K->(∀K,dJ P ssl j m ch C i K=mJ ssl j m ch C i K)->dJ P ssl j m ch C i F:=by
  intro i h T;rw [T] at h⊢;unfold mJ at h⊢
  cases ch with
  |nil=>exact aP1 hm h
  |cons g r=>exact⟨λe=>aP1 hm (h.1 e),λe=>hm _ _ _ (h.2 e)⟩
 have O:∀f (B:List V),mP (sD P f B j C λv=>K v j m) ((C=true->pR P f B j m K)/\(C=false->K .any j m)) ((C=true->rN P f B j m K)/\(C=false->K .any j m)) ((C=true->rW P f B j m K)/\(C=false->K .any j m))->
  mP (sD P f B j C λv=>F v j m) ((C=true->pR P f B j m F)/\(C=false->F .any j m)) ((C=true->rN P f B j m F)/\(C=false->F .any j m)) ((C=true->rW P f B j m F)/\(C=false->F .any j m)):=by
  rintro f B (⟨D,h1,h2,h3⟩| ⟨h1,h2⟩| ⟨h1,h2⟩| ⟨h1,h2⟩)
  ·exact .inl ⟨D,h1,h2,hm _ _ _ h3⟩
  ·exact .inr ⟨λe=>by obtain⟨L,G,H,D,J,M,N,Q,R,Z⟩:=h1 e;exact⟨L,G,H,D,J,M,N,Q,R,hm _ _ _ Z⟩,λe=>hm _ _ _ (h2 e)⟩
  ·exact .frz ⟨λe=>by obtain⟨Y,D,J,M,N⟩:=h1 e;exact⟨Y,D,J,M,hm _ _ _ N⟩,λe=>hm _ _ _ (h2 e)⟩
  ·exact .mov ⟨λe=>by obtain⟨L,G,H,D,J,M,N,Q,R⟩:=h1 e;exact⟨L,G,H,D,J,M,N,Q,hm _ _ _ R⟩,λe=>hm _ _ _ (h2 e)⟩
 cases i with
 |pick c a b=>
  cases c with
  |c v=>exact W _ h λ_=>rfl
  |t tc=>
   simp only [dJ] at h⊢;split at h
   ·split at h
    ·exact hm _ _ _ h
    ·split at h
     ·exact hm _ _ _ h
     ·exact hm _ _ _ h
   ·exact⟨h.1,hm _ _ _ h.2⟩
 |build z ps=>
  simp only [dJ] at h⊢;split at h
  ·exact⟨h.1,hm _ _ _ h.2⟩
  ·exact h.elim
 |call f xs=>exact O _ _ h
 |vcall x xs=>
  simp only [dJ] at h⊢;split at h
  ·exact⟨h.1,O _ _ h.2⟩
  ·exact⟨h.1,hm _ _ _ h.2⟩
 |clr a b c=>exact E _ h λ_=>rfl
 |alloc z=>exact E _ h λ_=>rfl
 |box z=>exact E _ h λ_=>rfl
 |st a b c=>exact E _ h λ_=>rfl
 |mkmap a=>exact E _ h λ_=>rfl
 |mput a b c=>exact E _ h λ_=>rfl
 |mputp a b c=>exact E _ h λ_=>rfl
 |bslice a b c d=>exact E _ h λ_=>rfl
 |mk a b c d e=>exact E _ h λ_=>rfl
 |app a b c d=>exact E _ h λ_=>rfl
 |cpy a b c=>exact E _ h λ_=>rfl
 |s2b a=>exact E _ h λ_=>rfl
 |aslc a b c=>exact E _ h λ_=>rfl
 |cpys a b=>exact E _ h λ_=>rfl
 |_=>exact W _ h λ_=>rfl
def aPO(e:A->V):I->List Nat
 | .st _ x _=>qE (e x)
 | .cpy _ x _=>qE (e x)
 | .cpys x _=>qE (e x)
 | .clr _ _ x=>qE (e x)
 | .mput x _ _=>qE (e x)
 | .mputp x _ _=>qE (e x)
 | .aslc _ x _=>qE (e x)
 | .app _ _ x _=>qE (e x)
 |_=> []
theorem aY4 {v:V} {k off len:Nat} (h:unk v=.sl k off len):qE v=[k]:=by
 cases v <;> simp [unk] at h
 ·obtain⟨rfl,rfl,rfl⟩:=h;rfl
 ·obtain⟨rfl,rfl,rfl⟩:=h;rfl
theorem aUZ {v:V} {k off len:Nat} (h:unk v=.slx k off len):qE v=[k]:=by
 cases v <;> simp [unk] at h
 obtain⟨rfl,rfl,rfl⟩:=h;rfl
theorem aP2 {z S:aD} {m n:Nat} {i:I} {e:A->V} {v:V} (h:oZ z m i e λa b c=>a=v/\b=S/\c=n) {k:Nat} (j:k≠m)(hc:k∉aPO e i):S.get k=z.get k:=by
 revert h;unfold oZ
 repeat' split
 all_goals intro h
 all_goals first
  |exact h.elim
  | (obtain⟨-,rfl,-⟩:=h;simp [aD.get_set,aD.get_del,j];done)
  | (obtain⟨-,-,rfl,-⟩:=h;simp [aD.get_set,aD.get_del,j];done)
  | (obtain⟨-,-,-,-,-,rfl,-⟩:=h;simp [aD.get_set,aD.get_del,j];done)
  | (obtain⟨-,-,rfl,-⟩:=h
     rename_i e1 _ _ _;simp only [aPO,e1,qE,bCU,zK] at hc;simp [aD.get_set,aD.get_del,hc];done)
  |skip
 all_goals
  try exact h.2.2.elim
 all_goals
  have f:k∉aPO e _:=hc;simp only [aPO] at f
  first
   |rw [‹e _=V.ptr _ _ _›] at f
   |rw [‹e _=V.mp _›] at f
   |rw [aY4 ‹unk (e _)=V.sl _ _ _›] at f
   |rw [aUZ ‹unk (e _)=V.slx _ _ _›] at f
   |skip
  simp only [qE,bCU,zK] at f
  first
   | (obtain rfl:=h.2.2.1;simp [aD.get_set,aD.get_del,j,f];done)
   | (obtain rfl:=h.2.2.2.1;simp [aD.get_set,aD.get_del,j,f];done)
   | (obtain rfl:=h.2.2.2.2.1;simp [aD.get_set,aD.get_del,j,f];done)
   | (obtain rfl:=h.2.2.2.2.2.1;simp [aD.get_set,aD.get_del,j,f];done)
   | (obtain rfl:=h.2.2.2.2.2.2.2.2.1;simp [aD.get_set,aD.get_del,j,f];done)
def eqL {α:Type} (f:α->α->Bool):List α->List α->Bool
 | [],[]=>true
 |x::r,y::q=>f x y&&eqL f r q
 |_,_=>false
theorem pJ {α:Type} {f:α->α->Bool} (e:∀x y,f x y=true->x=y):∀ {l m:List α},eqL f l m=true->l=m
 | [],[],_=>rfl
 |x::r,y::q,h=>by simp only [eqL,zC] at h;rw [e _ _ h.1,pJ e h.2]
 | [],_::_,h=>by cases h
 |_::_,[],h=>by cases h
def eqU(a b:UInt8):Bool:=Nat.beq a.toNat b.toNat
theorem bI3(a b:UInt8)(h:eqU a b=true):a=b:=UInt8.toNat_inj.1 (zA h)
def bMB(a b:ByteArray):Bool:=eqL eqU a.data.toList b.data.toList
theorem bCI(a b:ByteArray)(h:bMB a b=true):a=b:=by
 have :=pJ bI3 h;cases a;cases b
 congr 1
 exact Array.toList_inj.1 this
def eqV:Nat->V->V->Bool
 |0,_,_=>false
 |n+1,a,b=>match a,b with
  | .any,.any=>true
  | .int k x,.int k' y=>decide (k=k')&&decide (x=y)
  | .bool x,.bool y=>x==y
  | .str x,.str y=>bMB x y
  | .agg x,.agg y=>eqL (eqV n) x y
  | .tup x,.tup y=>eqL (eqV n) x y
  | .nil,.nil=>true
  | .ptr k i c,.ptr k' i' c'=>Nat.beq k k'&&(Nat.beq i i'&&Nat.beq c c')
  | .sl k i c,.sl k' i' c'=>Nat.beq k k'&&(Nat.beq i i'&&Nat.beq c c')
  | .lst e t x,.lst e' t' y=>Nat.beq e e'&&((t==t')&&eqL (eqL (eqV n)) x y)
  | .mp k,.mp k'=>Nat.beq k k'
  |_,_=>false
theorem aA8:∀(n:Nat) (a b:V),eqV n a b=true->a=b
 |0,_,_,h=>by cases h
 |n+1,a,b,h=>by
  unfold eqV at h;split at h <;>(try simp only [zC,decide_eq_true_eq,zbe] at h)<;>(try cases h;done)
  ·rfl
  ·rw [h.1,h.2]
  ·rw [h]
  ·rw [bCI _ _ h]
  ·rw [pJ (aA8 n) h]
  ·rw [pJ (aA8 n) h]
  ·rfl
  ·rw [zA h.1,zA h.2.1,zA h.2.2]
  ·rw [zA h.1,zA h.2.1,zA h.2.2]
  ·rw [zA h.1,h.2.1,pJ (λx y=>pJ (aA8 n)) h.2.2]
  ·rw [zA h]
def bI2:Option Obj->Option Obj->Bool
 |none,none=>true
 |some (.row e x),some (.row e' y)=>Nat.beq e e'&&eqL (eqL (eqV 12)) x y
 |some (.box x),some (.box y)=>eqL (eqV 12) x y
 |_,_=>false
theorem bCJ {a b:Option Obj} (h:bI2 a b=true):a=b:=by
 unfold bI2 at h;split at h
 ·rfl
 ·rw [zC] at h;rw [zA h.1,pJ (λx y=>pJ (aA8 12)) h.2]
 ·rw [pJ (aA8 12) h]
 ·cases h
def aTF(SO S1:aD)(W:List Nat):List Nat->Bool
 | []=>true
 |k::r=>(iS k W||bI2 (S1.get k) (SO.get k))&&aTF SO S1 W r
theorem aOQ {f S1:aD} {W:List Nat} :∀ {T:List Nat},aTF f S1 W T=true->∀k∈T,k∉W->S1.get k=f.get k
 | [],_,k,e,_=>by cases e
 |j::r,h,k,e,m=>by
  simp only [aTF,zC,Bool.or_eq_true] at h;rcases List.mem_cons.1 e with rfl |e
  ·rcases h.1 with h1 |h1
   ·exact absurd (gR.1 h1) m
   ·exact bCJ h1
  ·exact aOQ h.2 k e m
def bQ5(i:I)(SO S1:aD)(W T:List Nat):Bool:=
 match i with
 | .call f _=>match iS f gI.ro with
   |true=>aTF SO S1 W T
   |false=>true
 |_=>true
abbrev Cx:=Nat->FuncId->List V->aD->Nat->(V->aD->Nat->Prop)->Prop
def aU2(P:Program)(cx:Cx):Prop:=∀d f args S m K,cx d f args S m K->∃v S' n',K v S' n'/\((S'=S/\n'=m/\∀K':V->Prop,K' v->sD P f args S true K')\/(n'=m+16/\∀K':V->aD->Nat->Prop,K' v S' n'->pR P f args S m K')\/(n'=m+1/\∀K':V->aD->Nat->Prop,K' v S' n'->rN P f args S m K')\/(n'=m+16/\∀K':V->aD->Nat->Prop,K' v S' n'->rW P f args S m K'))
def aC4(P:Program)(f:FuncId):Bool:=
 match P.funcs[f]? with
 |some fn=>fn.body.isSome&& !(fn.name== "runtime.NumGoroutine")
 |none=>false
theorem aKE {P:Program} {f:FuncId} (h:aC4 P f=true):jE P f:=by
 unfold aC4 at h;split at h
 ·rename_i fn e;rw [zC,Bool.not_eq_true'] at h;exact⟨fn,e,h.1,h.2⟩
 ·cases h
def aY9(P:Program)(cx:FuncId->List V->aD->Nat->(V->aD->Nat->Prop)->Prop)(ssl:aY)(sso:aD)(snx:Nat)(ch:List (Nat×Bool))(gc:Bool)(i:I)(K:V->aD->Nat->Prop):Prop:=
 match i with
 | .call f xs=>match gc with
   |true=>jN (xs.map (bP ssl ch)) λa=>cx f a sso snx K
   |false=>K .any sso snx
 | .vcall x xs=>match bP ssl ch x with
   | .fn f caps=>rq (aC4 P f) (match gc with
     |true=>jN (xs.map (bP ssl ch)++caps) λa=>cx f a sso snx K
     |false=>K .any sso snx)
   |_=>rq (!gc) (K .any sso snx)
 |i=>fC P ssl sso snx ch gc i K
def aGL:I->Bool
 | .call _ _=>true
 | .vcall _ _=>true
 |_=>false
theorem aNL {P:Program} {J:Cx} (N:aU2 P J) {d:Nat} {ssl:aY} {m:aD} {j:Nat} {ch:List (Nat×Bool)} {C:Bool} {i:I} {K:V->aD->Nat->Prop} (h:aY9 P (J d) ssl m j ch C i K):
 ∃v S n,K v S n/\dJ P ssl m j ch C i (λa b c=>a=v/\b=S/\c=n)/\(aGL i=true->(S=m/\n=j)\/n=j+16\/n=j+1):=by
 have D:∀f (a:List V),J d f a m j K->∃v S n,K v S n/\mP (sD P f a m true λQ=>Q=v/\m=S/\j=n) ((true=true->pR P f a m j λa b c=>a=v/\b=S/\c=n)/\(true=false->.any=v/\m=S/\j=n)) ((true=true->rN P f a m j λa b c=>a=v/\b=S/\c=n)/\(true=false->.any=v/\m=S/\j=n)) ((true=true->rW P f a m j λa b c=>a=v/\b=S/\c=n)/\(true=false->.any=v/\m=S/\j=n))/\((S=m/\n=j)\/n=j+16\/n=j+1):=by
  intro f a h;obtain⟨v,H,O,F,⟨rfl,rfl,h1⟩| ⟨E,h1⟩| ⟨E,h1⟩| ⟨E,h1⟩⟩:=N d f a m j K h
  ·exact⟨v,_,_,F,.inl (h1 _ ⟨rfl,rfl,rfl⟩),.inl ⟨rfl,rfl⟩⟩
  ·exact⟨v,H,O,F,.inr ⟨λ_=>h1 _ ⟨rfl,rfl,rfl⟩,(by intro h;cases h)⟩,.inr (.inl E)⟩
  ·exact⟨v,H,O,F,.frz ⟨λ_=>h1 _ ⟨rfl,rfl,rfl⟩,(by intro h;cases h)⟩,.inr (.inr E)⟩
  ·exact⟨v,H,O,F,.mov ⟨λ_=>h1 _ ⟨rfl,rfl,rfl⟩,(by intro h;cases h)⟩,.inr (.inl E)⟩
 have B:fC P ssl m j ch C i K->aGL i=false->∃v S n,K v S n/\dJ P ssl m j ch C i (λa b c=>a=v/\b=S/\c=n)/\(aGL i=true->(S=m/\n=j)\/n=j+16\/n=j+1):=by intro h hc;rw [aKW] at h;obtain⟨v,S,n,h1,h2⟩:=aNK (st:=⟨ssl,m,j⟩) h;exact⟨v,S,n,h1,h2,λh=>by rw [hc] at h;cases h⟩
 cases i with
 |call f xs=>
  simp only [aY9] at h
  cases C with
  |true=> simp only [fU] at h;obtain⟨v,S,n,h1,h2,M⟩:=D _ _ h;exact⟨v,S,n,h1,h2,λ_=>M⟩
  |false=>exact⟨_,_,_,h,.inr ⟨(by intro h;cases h),λ_=>⟨rfl,rfl,rfl⟩⟩,λ_=>.inl ⟨rfl,rfl⟩⟩
 |vcall x xs=>
  simp only [aY9] at h;split at h
  ·rename_i f z G;rw [gG] at h;obtain⟨hc,h⟩:=h;have hc:=aKE hc
   cases C with
   |true=> simp only [fU] at h;obtain⟨v,S,n,h1,h2,M⟩:=D _ _ h;refine⟨v,S,n,h1,?_,λ_=>M⟩;unfold dJ;dsimp only;rw [G];exact⟨hc,h2⟩
   |false=> refine⟨_,_,_,h,?_,λ_=>.inl ⟨rfl,rfl⟩⟩;unfold dJ;dsimp only;rw [G];exact⟨hc,.inr ⟨(by intro h;cases h),λ_=>⟨rfl,rfl,rfl⟩⟩⟩
  ·rename_i G;rw [aQZ] at h;refine⟨_,_,_,h.2,?_,λ_=>.inl ⟨rfl,rfl⟩⟩;unfold dJ;dsimp only;split
   ·rename_i f z e;exact absurd e (G f z)
   ·exact⟨h.1,rfl,rfl,rfl⟩
 |_=>exact B h rfl
def bDK(P:Program)(cx:Cx):List iQ->St->(St->Prop)->Prop
 | [],st,K=>K st
 | ⟨d,g,i⟩::r,⟨ssl,sso,snx⟩,K=>rQ ssl g λch gc=>aY9 P (cx (d.getD 0)) ssl sso snx ch gc i λv S n=>nN v λv=>dH S λS=>cG 64 0 n λn=>aBH ssl d ⟨ch,gc,v⟩ λsl=>bDK P cx r ⟨sl,S,n⟩ K
theorem aO5 {P:Program} {B:Cx} (j:aU2 P B):∀(l:List iQ) (st:St) (K:St->Prop),bDK P B l st K->∃f,K f/\∀m:St->Prop,m f->rZ P l st m
 | [],st,K,h=>⟨st,h,λ_ h=>h⟩
 | ⟨d,g,i⟩::r,⟨ssl,E,D⟩,K,h=>by
   simp only [bDK,mW] at h;simp only [rZ]
   cases hg:guardOf ssl g with
   |none=>rw [hg] at h;exact h.elim
   |some p=> obtain⟨ch,F⟩:=p;rw [hg] at h;obtain⟨v,S,n,h1,h2,-⟩:=aNL j h;simp only [iR,eH,dN,qT] at h1;obtain⟨f,C,h4⟩:=aO5 j r _ K h1;refine⟨f,C,λm z=>?_⟩;refine aGJ (λa b c e=>?_) h2;obtain⟨rfl,rfl,rfl⟩:=e;exact h4 m z
theorem aQ7 {P:Program} {ssl:aY} {j S:aD} {m n:Nat} {ch:List (Nat×Bool)} {C:Bool} {i:I} {v:V} (h:dJ P ssl j m ch C i λa b c=>a=v/\b=S/\c=n)(hi:aGL i=false) {k:Nat} (E:k≠m)(hc:k∉aPO (bP ssl ch) i):S.get k=j.get k:=by
 have F:∀i,dJ P ssl j m ch C i (λa b c=>a=v/\b=S/\c=n)->(∀K,dJ P ssl j m ch C i K=gL j i (bP ssl ch) C λv=>K v j m)->S.get k=j.get k:=by intro i h D;rw [D] at h;obtain⟨u,h1,-⟩:=aLD h;obtain⟨-,rfl,-⟩:=h1;rfl
 have B:∀i,dJ P ssl j m ch C i (λa b c=>a=v/\b=S/\c=n)->(∀K,dJ P ssl j m ch C i K=mJ ssl j m ch C i K)->k∉aPO (bP ssl ch) i->S.get k=j.get k:=by
  intro i h D hc;rw [D] at h;unfold mJ at h
  cases ch with
  |nil=>exact aP2 h E hc
  |cons g r=>
   cases C with
   |true=>exact aP2 (h.1 rfl) E hc
   |false=>obtain⟨-,rfl,-⟩:=h.2 rfl;rfl
 cases i with
 |pick c a b=>
  cases c with
  |c v=>exact F _ h λ_=>rfl
  |t H=>
   simp only [dJ] at h;split at h
   ·split at h
    ·obtain⟨-,rfl,-⟩:=h;rfl
    ·split at h
     ·obtain⟨-,rfl,-⟩:=h;rfl
     ·obtain⟨-,rfl,-⟩:=h;rfl
   ·obtain⟨-,-,rfl,-⟩:=h;rfl
 |build z G=>
  simp only [dJ] at h;split at h
  ·obtain⟨-,-,rfl,-⟩:=h;rfl
  ·exact h.elim
 |call f xs=>cases hi
 |vcall x xs=>cases hi
 |clr a b c=>exact B _ h (λ_=>rfl) hc
 |alloc z=>exact B _ h (λ_=>rfl) hc
 |box z=>exact B _ h (λ_=>rfl) hc
 |st a b c=>exact B _ h (λ_=>rfl) hc
 |mkmap a=>exact B _ h (λ_=>rfl) hc
 |mput a b c=>exact B _ h (λ_=>rfl) hc
 |mputp a b c=>exact B _ h (λ_=>rfl) hc
 |bslice a b c d=>exact B _ h (λ_=>rfl) hc
 |mk a b c d e=>exact B _ h (λ_=>rfl) hc
 |app a b c d=>exact B _ h (λ_=>rfl) hc
 |cpy a b c=>exact B _ h (λ_=>rfl) hc
 |s2b a=>exact B _ h (λ_=>rfl) hc
 |aslc a b c=>exact B _ h (λ_=>rfl) hc
 |cpys a b=>exact B _ h (λ_=>rfl) hc
 |_=>exact F _ h λ_=>rfl
theorem uG {m S1:aD} {W:List Nat} {K:Prop} (e:K):∀ {T:List Nat},(∀k∈T,k∉W->S1.get k=m.get k)->aE2 m S1 W K T
 | [],_=>e
 |k::r,h=>by
  simp only [aE2];split
  ·exact uG e λj f=>h j (zI _ f)
  ·rename_i z;exact⟨h k (by simp) (λhm=>by rw [gR.2 hm] at z;cases z),uG e λj f=>h j (zI _ f)⟩
def aX7(P:Program)(cx:Cx):St->Nat->Option Nat->Option (Nat×Bool)->I->(Rec->St->Prop)->Prop
 | ⟨ssl,sso,snx⟩,m,d,g,i,K=>
 cZ (gsl g++aOZ i) λrds=>rP (look ssl rds) λSL=>rQ SL g λch gc=>cZ (tU i SL sso) λT=>dH (iK sso T) λSO=>cZ (gsl g++chs SL) λG=>
  aY9 P (cx (d.getD 0)) SL SO m ch gc i λv S1 n1=>nN v λv=>dH S1 λS1=>cZ (wrI SL T m n1 i) λW=>cZ (W++aGY m S1) λids=>
   rq ((aCK T m S1&&(qN d G&&(aFN (m+16) ids&&(aIE W T&&(aIE (chT ch) G&&(aFR m T&&Nat.ble n1 (m+16)))))))&&(aIE (aPO (bP SL ch) i) W&&bQ5 i SO S1 W T))
   (aBH ssl d ⟨ch,gc,v⟩ λsl=>dH (aBD sso S1 ids) λso=>K ⟨m,rds++G,chT ch,d,⟨ch,gc,v⟩,T,ids,S1⟩ ⟨sl,so,snx⟩)
def aN0(P:Program)(cx:Cx):List iQ->List Nat->St->(List Rec->St->Prop)->Prop
 | [],[],st,K=>K [] st
 | ⟨d,g,i⟩::r,m::ms,st,K=>aX7 P cx st m d g i λrc st'=>aN0 P cx r ms st' λrs st''=>K (rc::rs) st''
 |_,_,_,_=>False
theorem aUM {P:Program} {Q:Cx} (F:aU2 P Q):∀(st:St) (m:Nat) (d:Option Nat) (g:Option (Nat×Bool)) (i:I) (K:Rec->St->Prop),aX7 P Q st m d g i K->∃rc B,K rc B/\∀J:Rec->St->Prop,J rc B->aG0 P st m d g i J
 | ⟨ssl,z,ab⟩,m,d,g,i,K,h=>by
   simp only [aX7,fT,nM,mW,eH] at h;simp only [aG0,fT,nM,mW,eH];generalize aa:look ssl (gsl g++aOZ i)=M at h⊢
   cases hg:guardOf M g with
   |none=>rw [hg] at h;exact h.elim
   |some p=>
    obtain⟨ch,gc⟩:=p;rw [hg] at h;dsimp only at h⊢;obtain⟨v,S1,n1,h1,h2,h3⟩:=aNL F h;simp only [iR,gG,zC,qT] at h1;obtain⟨⟨⟨Y,Z,a3,a4,a5,N,a7⟩,a8,O⟩,G⟩:=h1;refine⟨_,_,G,λJ E=>?_⟩;refine aGJ (λa b c e=>?_) h2;obtain⟨rfl,rfl,rfl⟩:=e;simp only [iR,zC,qT];refine⟨⟨Y,Z,a3,a4,a5,N,a7⟩,uG E λk C D=>?_⟩;have H:k≠m:=λe=>aA2 N k C ⟨by omega,by omega⟩
    cases hc:aGL i with
    |false=>exact aQ7 h2 hc H λhm=>D (nB a8 k hm)
    |true=>
     have R:∀j,c=m+(j+1)->b.get k=(iK z (tU i M z)).get k:=by
      intro j e
      have T:Nat.beq (m+(j+1)) m=false:=by
       cases hq:Nat.beq (m+(j+1)) m with
       |false=>rfl
       |true=>have :=zA hq;omega
      subst e;cases i <;> try(cases hc;done)
      ·rename_i f xs
       cases W:iS f gI.ro with
       |true=> simp only [bQ5,W] at O;exact aOQ O k C D
       |false=> exfalso;apply D;simp only [wrI,T,W];exact C
      ·exfalso;apply D;simp only [wrI,T];exact C
     rcases h3 hc with ⟨e,-⟩|e |e
     ·rw [e]
     ·exact R 15 e
     ·exact R 0 e
theorem aC7 {P:Program} {D:Cx} (f:aU2 P D):∀(l:List iQ) (z:List Nat) (st:St) (K:List Rec->St->Prop),aN0 P D l z st K->∃rs e,K rs e/\∀C:List Rec->St->Prop,C rs e->nK P l z st C
 | [],[],st,K,h=>⟨_,_,h,λ_ h=>h⟩
 | [],_::_,st,K,h=>h.elim
 | ⟨d,g,i⟩::r,[],st,K,h=>h.elim
 | ⟨d,g,i⟩::r,m::z,st,K,h=>by simp only [aN0] at h;simp only [nK];obtain⟨rc,e,h1,h2⟩:=aUM f _ _ _ _ _ _ h;obtain⟨rs,j,E,h4⟩:=aC7 f r z e _ h1;exact⟨rc::rs,j,E,λC B=>h2 _ (h4 _ B)⟩
def ul:RC->RC
 | .seq a b=>.seq (ul a) (ul b)
 | .cond c a b=>.cond c (ul a) (ul b)
 | .block id a=>.block id (ul a)
 | .loop a=>.uloop (ul a)
 | .uloop a=>.uloop (ul a)
 |rc=>rc
theorem iO:∀rc:RC,strip (ul rc)=strip rc
 | .seq a b=>by simp only [ul,strip,iO a,iO b]
 | .cond c a b=>by simp only [ul,strip,iO a,iO b]
 | .block id a=>by simp only [ul,strip,iO a]
 | .loop a=>by simp only [ul,strip,iO a]
 | .uloop a=>by simp only [ul,strip,iO a]
 | .skip=>rfl
 | .reg _ _=>rfl
 | .dreg .. =>rfl
 | .cut _ _=>rfl
 | .regc .. =>rfl
 | .regv .. =>rfl
 | .exit _=>rfl
 | .ret=>rfl
 | .bad=>rfl
def nH(P:Program)(cx:Cx)(lf:Nat):RC->St->(Ex->St->Prop)->Prop
 | .skip,st,K=>K .normal st
 | .reg l kill,st,K=>bDK P cx l st λ| ⟨sl0,so0,nx0⟩=>eX kill sl0 λsl=>K .normal ⟨sl,so0,nx0⟩
 | .dreg b0 n l kill an ms,st,K=>match Nat.ble st.nx b0 with
   |true=>aN0 P cx l ms ⟨st.sl,st.so,n⟩ λ|recs,⟨sl0,so0,nx0⟩=>rq (nJ recs an 0)<|eX kill (look sl0 (qJ sl0)) λsl=>K .normal ⟨sl,so0,nx0⟩
   |false=>aN0 P cx l (shM st.nx ms) ⟨st.sl,st.so,n+st.nx⟩ λ|recs,⟨sl0,so0,nx0⟩=>rq (nJ recs an 0)<|eX kill (look sl0 (qJ sl0)) λsl=>K .normal ⟨sl,so0,nx0⟩
 | .seq a b,st,K=>nH P cx lf a st λe st'=>match e with
   | .normal=>nH P cx lf b st' K
   | .exit id=>K (.exit id) st'
   | .ret=>K .ret st'
 | .cond c a b,st,K=>match bP st.sl [] c with
   | .bool x=>cq x (nH P cx lf a st K) (nH P cx lf b st K)
   |_=>False
 | .block id c,st,K=>nH P cx lf c st λe st'=>match e with
   | .exit j=>match Nat.beq j id with
     |true=>K .normal st'
     |false=>K (.exit j) st'
   | .normal=>K .normal st'
   | .ret=>K .ret st'
 | .loop c,st,K=>tW (nH P cx lf c) K lf st
 | .uloop c,st,K=>tW (nH P cx lf c) K lf st
 | .exit id,st,K=>K (.exit id) st
 | .ret,st,K=>K .ret st
 |_,_,_=>False
def bKY(f g:St->(Ex->St->Prop)->Prop):Prop:=∀st K,f st K->∃e st',K e st'/\∀K':Ex->St->Prop,K' e st'->g st K'
theorem aGN {f g:St->(Ex->St->Prop)->Prop} (h:bKY f g):∀(n:Nat) (st:St) (K:Ex->St->Prop),tW f K n st->∃e m,K e m/\∀z:Ex->St->Prop,z e m->∃B,tW g z B st
 |0,_,_,hi=>hi.elim
 |n+1,st,K,hi=>by
  obtain⟨e,m,h1,h2⟩:=h st _ hi
  cases e with
  |normal=> obtain⟨D,C,E,h4⟩:=aGN h n m K h1;refine⟨D,C,E,λz j=>?_⟩;obtain⟨B,h5⟩:=h4 z j;exact⟨B+1,h2 _ h5⟩
  |exit id=>exact⟨_,_,h1,λz j=>⟨1,h2 _ j⟩⟩
  |ret=>exact⟨_,_,h1,λz j=>⟨1,h2 _ j⟩⟩
theorem uS {P:Program} {Q:Cx} (z:aU2 P Q)(N n0:Nat):∀rc:RC,bKY (nH P Q N rc) (cW P n0 (ul rc)):=by
 intro rc
 induction rc with
 |skip=>intro st K h;exact⟨_,_,h,λ_ h=>h⟩
 |exit id=>intro st K h;exact⟨_,_,h,λ_ h=>h⟩
 |ret=>intro st K h;exact⟨_,_,h,λ_ h=>h⟩
 |reg l E=> intro st K h;simp only [nH,gV] at h;obtain⟨⟨sl0,G,F⟩,h1,h2⟩:=aO5 z l st _ h;exact⟨_,_,h1,λH f=>h2 _ f⟩
 |dreg b0 n l E an Y=>
  intro st K h;simp only [nH,gV,gG] at h;split at h
  ·rename_i J;obtain⟨Z,⟨sl0,G,F⟩,h1,h2⟩:=aC7 z l Y _ _ h;exact⟨_,_,h1.2,λH f=>by simp only [ul,cW,J];exact h2 _ ⟨h1.1,f⟩⟩
  ·rename_i J;obtain⟨Z,⟨sl0,G,F⟩,h1,h2⟩:=aC7 z l _ _ _ h;exact⟨_,_,h1.2,λH f=>by simp only [ul,cW,J];exact h2 _ ⟨h1.1,f⟩⟩
 |seq a b B C=>
  intro st K h;obtain⟨e,m,h1,h2⟩:=B st _ h
  cases e with
  |normal=> obtain⟨T,O,W,h4⟩:=C m K h1;exact⟨T,O,W,λH f=>h2 _ (h4 _ f)⟩
  |exit id=>exact⟨_,_,h1,λH f=>h2 _ f⟩
  |ret=>exact⟨_,_,h1,λH f=>h2 _ f⟩
 |cond c a b B C=>
  intro st K h;simp only [nH] at h;split at h
  ·rename_i x R
   cases x with
   |true=> obtain⟨e,m,h1,h2⟩:=B st K h;refine⟨e,m,h1,λH f=>?_⟩;simp only [ul,cW,R];exact⟨λ_=>h2 _ f,(by intro h;cases h)⟩
   |false=> obtain⟨e,m,h1,h2⟩:=C st K h;refine⟨e,m,h1,λH f=>?_⟩;simp only [ul,cW,R];exact⟨(by intro h;cases h),λ_=>h2 _ f⟩
  ·exact h.elim
 |block id c D=>
  intro st K h;obtain⟨e,m,h1,h2⟩:=D st _ h
  cases e with
  |normal=>exact⟨_,_,h1,λH f=>h2 _ f⟩
  |ret=>exact⟨_,_,h1,λH f=>h2 _ f⟩
  |exit j=>
   dsimp only at h1;split at h1
   ·rename_i M;exact⟨_,_,h1,λH f=>h2 _ (by show if j=id then H .normal m else H (.exit j) m;rw [if_pos (zA M)];exact f)⟩
   ·rename_i M;exact⟨_,_,h1,λH f=>h2 _ (by show if j=id then H .normal m else H (.exit j) m;rw [if_neg (Nat.ne_of_beq_eq_false M)];exact f)⟩
 |loop c D=>intro st K h;exact aGN D N st K h
 |uloop c D=>intro st K h;exact aGN D N st K h
 |_=>intro st K h;exact h.elim
end Go.Sk
namespace Go.Sk
open Go Go.RowKit
variable [gI]
structure En(P:Program) where
 ext:Bool->FuncId->List Obj->List V->Option (V×List Obj)
 hext:∀own f ob0 args v ob1,ext own f ob0 args=some (v,ob1)->aM P f ob0 args v ob1
 qg:Option FuncId
 hq:∀g,qg=some g->Quiet P g
 md:FuncId->Nat->FuncId->Nat
 lf:Nat
 fz:FuncId->List Nat
abbrev bBN:=Nat->FuncId->List Obj->List V->(V->List Obj->Prop)->Prop
def FnB(P:Program)(md:Nat)(f:FuncId)(ob0:List Obj)(args:List V)(res:V)(ob1:List Obj):Prop:=
 match md with
 |3=>FnM P f ob0 args res ob1
 |_=>aM P f ob0 args res ob1
def bFK(P:Program)(run:bBN):Prop:=∀md f ob0 a K,run md f ob0 a K->∃res ob1,K res ob1/\FnB P md f ob0 a res ob1
def aIK {P:Program} (E:En P)(run:bBN)(caller:FuncId):Cx:=λd f args S m K=>
 match E.md caller d f with
 |1=>cZ (aNO S args) λL=>match rV S L L with
  |some ob0=>lT ob0 λob0=>jN (args.map (arg2 L)) λa=>run 1 f ob0 a λres ob1=>rq (jA L&&(Nat.ble L.length ob1.length&&Nat.ble ob1.length (L.length+16))) (K (aBL L m res) (lP S L (ob1.map (lN L m)) m) (m+16))
  |none=>False
 |2=>cZ (aYO args []) λL=>rq (args.all (puB S)&&args.all (aDG L))<|jN (args.map (pur S)) λa=>run 0 f [] a λres ob1=>match ob1 with
  | []=>K res (jQ S L) (m+1)
  |_::_=>False
 |3=>cZ (aNO S args) λL=>match rV S L L with
  |some ob0=>lT ob0 λob0=>jN (args.map (arg2 L)) λa=>run 3 f ob0 a λres ob1=>rq (jA L&&Nat.ble ob1.length 16) (K (aBL [] m res) (lP (jQ S L) [] (ob1.map (lN [] m)) m) (m+16))
  |none=>False
 |_=>rq (args.all (puB S))<|jN (args.map (pur S)) λa=>run 0 f [] a λres ob1=>match ob1 with
  | []=>rq (args.all aJC||aD8 res) (K res S m)
  |_::_=>False
theorem aAX {S:aD} {L:List Nat} :∀ {l:List V},l.all (puB S)=true->l.all (aDG L)=true->aNA S L l
 | [],_,_=>trivial
 |v::r,h1,h2=>by simp only [List.all_cons,zC] at h1 h2;exact⟨⟨aZW h1.1,h2.1⟩,aAX h1.2 h2.2⟩
theorem aWX {P:Program} (E:En P) {F:bBN} (G:bFK P F)(B:FuncId):aU2 P (aIK E F B):=by
 intro d f Q S m K h;simp only [aIK] at h;split at h
 ·simp only [fT] at h;split at h
  ·rename_i D C;simp only [rO,fU] at h;obtain⟨z,j,h1,h2⟩:=G _ _ _ _ _ h;simp only [gG,zC] at h1;obtain⟨⟨N,J,M⟩,H⟩:=h1;exact⟨_,_,_,H,.inr (.inl ⟨rfl,λK' e=>⟨_,D,j,z,h2,nT C,N,J,M,e⟩⟩)⟩
  ·exact h.elim
 ·simp only [fT,gG,fU,zC] at h;obtain⟨⟨O,T⟩,h⟩:=h;obtain⟨z,j,h1,h2⟩:=G _ _ _ _ _ h
  cases j with
  |cons o r=>exact h1.elim
  |nil=>exact⟨_,_,_,h1,.inr (.inr (.inl ⟨rfl,λK' e=>⟨_,z,h2,aAX O T,e⟩⟩))⟩
 ·simp only [fT] at h;split at h
  ·rename_i D C;simp only [rO,fU] at h;obtain⟨z,j,h1,h2⟩:=G _ _ _ _ _ h;simp only [gG,zC] at h1;obtain⟨⟨N,R⟩,H⟩:=h1;exact⟨_,_,_,H,.inr (.inr (.inr ⟨rfl,λK' e=>⟨_,D,j,z,h2,nT C,N,R,e⟩⟩))⟩
  ·exact h.elim
 ·simp only [gG,fU] at h;obtain⟨O,h⟩:=h;obtain⟨z,j,h1,h2⟩:=G _ _ _ _ _ h
  cases j with
  |cons o r=>exact h1.elim
  |nil=> dsimp only at h1;rw [Bool.or_eq_true] at h1;exact⟨_,_,_,h1.2,.inl ⟨rfl,rfl,λK' e=>⟨z,λ_=>⟨λv W=>aZW (List.all_eq_true.1 O v W),h2⟩,h1.1,e⟩⟩⟩
def bE9(n0:Nat)(own:Bool)(dp:List Nat)(rvs:List RV)(K:V->List Obj->Prop)(e:Ex)(st:St):Prop:=
 match e with
 | .normal=>bBK n0 own dp rvs K st
 | .ret=>bBK n0 own dp rvs K st
 | .exit _=>False
theorem aLK {P:Program} {n0:Nat} {m:Bool} {z:List Nat} {rvs:List RV} {K:V->List Obj->Prop} {e:Ex} {st:St} (h:bE9 n0 m z rvs K e st):∃j f,K j f/\gM P n0 rvs j f e st:=by
 cases e with
 |normal=>exact aRB h
 |ret=>exact aRB h
 |exit id=>exact h.elim
def bSH(f:St->Prop)(e:Ex)(st:St):Prop:=
 match e with
 | .normal=>f st
 | .exit _=>False
 | .ret=>False
def bPT(a b:Option Nat):Bool:=
 match a,b with
 |some a,some b=>Nat.beq a b
 |_,_=>false
def aIC {P:Program} (E:En P):Nat->bBN
 |0=>λ_ _ _ _ _=>False
 |n+1=>λmd f ob0 args K=>match(match md with |3=>none |_=>E.ext (Nat.beq md 1) f ob0 args) with
  |some (v,ob1)=>jN [v] λl=>match l with |v::_=>lT ob1 λob1=>K v ob1 | []=>False
  |none=>match P.funcs[f]? with
   |some fn=>match fn.body,fn.results.toList.mapM (jJ P) with
    |some c,some rvs=>rq (Nat.ble args.length fn.ntmps)<|cG 16 0 ob0.length λn0=>match aMW P c with
     |some (ca,o,g,cb)=>rq (bPT (some g) E.qg&& !Nat.beq md 3)<|match aON P fn.ntmps (kY rvs) [] ca cb with
      |some (ra,rb)=>nH P (aIK E (aIC E n) f) E.lf ra ⟨dO 0 args,aH 0 ob0,n0⟩ (bSH λst=>nH P (aIK E (aIC E n) f) E.lf rb st (bE9 n0 (Nat.beq md 1) (E.fz f) rvs K))
      |none=>False
     |none=>match aHK P fn.ntmps (kY rvs) [] c with
      |some rc=>match md with
       |3=>nH P (aIK E (aIC E n) f) E.lf rc ⟨dO 0 args,aH 0 ob0,n0⟩ (bE9 0 true (E.fz f) rvs K)
       |_=>nH P (aIK E (aIC E n) f) E.lf rc ⟨dO 0 args,aH 0 ob0,n0⟩ (bE9 n0 (Nat.beq md 1) (E.fz f) rvs K)
      |none=>False
    |_,_=>False
   |none=>False
theorem aPC {P:Program} {m:Nat} {f:FuncId} {ob0 e:List Obj} {args:List V} {j:V} (hm:m≠3)(h:aM P f ob0 args j e):FnB P m f ob0 args j e:=by
 unfold FnB;split
 ·exact absurd rfl hm
 ·exact h
theorem aLL {P:Program} (E:En P):∀n,bFK P (aIC E n)
 |0=>λ_ _ _ _ _ h=>h.elim
 |n+1=>by
  intro Z f ob0 args K h;have B:=aWX E (aLL E n) f;simp only [aIC] at h;split at h
  ·rename_i v j M;simp only [fU,rO] at h;split at M
   ·cases M
   ·rename_i D;exact⟨v,j,h,aPC (λe=>D e) (E.hext _ _ _ _ _ _ M)⟩
  ·split at h
   ·rename_i fn N;split at h
    ·rename_i c rvs R F;rw [gG,dN] at h;obtain⟨O,h⟩:=h;have C:fn.body.isSome=true:=by rw [R];rfl
     have hg:fn.body.getD .skip=c:=by rw [R];rfl
     split at h
     ·rename_i ca o g cb Y;rw [gG,zC] at h;obtain⟨⟨G,D⟩,h⟩:=h;have D:Z≠3:=λe=>by subst e;cases D
      have G:E.qg=some g:=by
       cases Q:E.qg with
       |none=>rw [Q] at G;cases G
       |some T=>rw [Q] at G;rw [zA (show Nat.beq g T=true from G)]
      split at h
      ·rename_i ra rb m;obtain⟨s1,s2⟩:=aDZ m;obtain⟨e,J,h1,h2⟩:=uS B E.lf ob0.length ra _ _ h
       cases e with
       |exit id=>exact h1.elim
       |ret=>exact h1.elim
       |normal=> obtain⟨e2,aa,W,h4⟩:=uS B E.lf ob0.length rb _ _ h1;obtain⟨z,j,h5,H⟩:=aLK (P:=P) W;exact⟨z,j,h5,aPC D (aS0 N C (by rw [hg];exact Y) (E.hq g G) (by rw [iO];exact s1) (by rw [iO];exact s2) F (zE O) (h2 _ (h4 _ H)))⟩
      ·exact h.elim
     ·split at h
      ·rename_i rc m;split at h
       ·obtain⟨e,J,h1,h2⟩:=uS B E.lf 0 rc _ _ h;obtain⟨z,j,h5,H⟩:=aLK (P:=P) h1;exact⟨z,j,h5,aXP N C (by rw [iO,hg];exact oA m) F (zE O) (h2 _ H)⟩
       ·rename_i D;obtain⟨e,J,h1,h2⟩:=uS B E.lf ob0.length rc _ _ h;obtain⟨z,j,h5,H⟩:=aLK (P:=P) h1;exact⟨z,j,h5,aPC (λe=>D e) (bFS N C (by rw [iO,hg];exact oA m) F (zE O) (h2 _ H))⟩
      ·exact h.elim
    ·exact h.elim
   ·exact h.elim
def isTrue(v:V)(obs:List Obj):Prop:=
 match v,obs with
 | .bool true,[]=>True
 |_,_=>False
theorem bAJ {P:Program} (E:En P)(n:Nat) {f:FuncId} {args:List V} (h:aIC E n 0 f [] args isTrue=True):aM P f [] args (.bool true) []:=by
 have h:aIC E n 0 f [] args isTrue:=by rw [h];trivial
 obtain⟨j,e,h1,h2⟩:=aLL E n _ _ _ _ _ h;unfold isTrue at h1;split at h1
 ·exact h2
 ·exact h1.elim
def isEq(u v:V)(obs:List Obj):Prop:=
 match obs with
 | []=>match eqV 12 u v with
   |true=>True
   |false=>False
 |_::_=>False
theorem run_eq {P:Program} (E:En P)(n:Nat) {f:FuncId} {args:List V} {v:V} (h:aIC E n 0 f [] args (isEq v)=True):aM P f [] args v []:=by
 have h:aIC E n 0 f [] args (isEq v):=by rw [h];trivial
 obtain⟨m,j,h1,h2⟩:=aLL E n _ _ _ _ _ h;unfold isEq at h1;split at h1
 ·split at h1
  ·rename_i e;rw [aA8 12 _ _ e];exact h2
  ·exact h1.elim
 ·exact h1.elim
end Go.Sk
namespace Go.Sk
open Go Go.RowKit
variable [gI]
def vY(x y:V):Prop:=∀(O:Nat->Prop) (w:World) (σ:Sg) (v:Value),VR O w σ x v->VR O w σ y v
theorem vY.refl(v:V):vY v v:=λ_ _ _ _ h=>h
theorem VR.le {O:Nat->Prop} {w:World} {σ:Sg} {x y:V} {v:Value} (hv:VR O w σ x v)(h:vY x y):VR O w σ y v:=h O w σ v hv
def mQ(xs ys:List V):Prop:=xs.length=ys.length/\∀(c:Nat) (u v:V),xs[c]? =some u->ys[c]? =some v->vY u v
theorem mQ.refl(xs:List V):mQ xs xs:=⟨rfl,λc u v f e=>by rw [f] at e;obtain rfl:=zsi e;exact .refl u⟩
theorem mQ.nil:mQ [] []:=.refl []
theorem mQ.cons {x y:V} {xs ys:List V} (h:vY x y)(j:mQ xs ys):mQ (x::xs) (y::ys):=by
 refine⟨by simp [j.1],λc u v e f=>?_⟩
 cases c with
 |zero=> simp only [zH,zse] at e f;subst e f;exact h
 |succ c=>exact j.2 c u v (by simpa using e) (by simpa using f)
theorem mQ.get {xs ys:List V} (h:mQ xs ys)(i:Nat)(y:V)(f:ys[i]? =some y):∃x,xs[i]? =some x/\vY x y:=by obtain⟨j,-⟩:=List.getElem?_eq_some_iff.1 f;have e:=zD (l:=xs) (i:=i) (by rw [h.1];exact j);exact⟨_,e,h.2 i _ y e f⟩
theorem vY.lst {es es':Nat} {t Q:Bool} {xs ys:List (List V)} (T:es'=es\/xs=[])(N:t=true->Q=true)(C:xs.length=ys.length)
 (h:∀(i:Nat) (x y:List V),xs[i]? =some x->ys[i]? =some y->mQ x y):vY (.lst es' Q xs) (.lst es t ys):=by
 intro O w σ v hv
 cases hv with
 | @lst _ _ _ _ a cap b o M R H j z E G F=>
   have D:∀(i:Nat) (y:List V),ys[i]? =some y->∃x,xs[i]? =some x/\i<xs.length:=λi y D=>by obtain⟨m,-⟩:=List.getElem?_eq_some_iff.1 D;have :=zD (l:=xs) (i:=i) (by omega);exact⟨_,this,by omega⟩
   rcases T with rfl |rfl
   ·rw [C];refine .lst b o M (λY=>R (λe=>Y (List.length_eq_zero_iff.1 (by rw [<-C,e];rfl)))) (λy f=>?_) (by omega) (λW=>by rw [<-C];exact z (N W)) (λi c m hc=>E i c (by omega) hc) (λi c m hc=>G i c (by omega) hc) λi y c v' f K=>?_
    ·obtain⟨i,m⟩:=zJ f;obtain⟨x,B,-⟩:=D i y m;rw [<-(h i x y B m).1];exact H x (zF B)
    ·obtain⟨x,B,-⟩:=D i y f;obtain⟨u,Z,J⟩:=(h i x y B f).get c v' K;exact(F i x c u B Z).le J
   ·obtain rfl:ys=[]:=List.length_eq_zero_iff.1 (by rw [<-C];rfl);exact .lst (xs:= []) b o M (by simp) (by simp) j (λW=>z (N W)) (by simp) (by simp) (by simp)
theorem vY.aggs {xs ys:List V} (h:mQ xs ys):vY (.agg xs) (.agg ys):=λO w σ v m=>by
 cases m with
 |agg f hc=> refine .agg (by rw [f,h.1]) λi y u B j=>?_;obtain⟨x,z,e⟩:=h.get i y B;exact(hc i x u z j).le e
theorem vY.tups {xs ys:List V} (h:mQ xs ys):vY (.tup xs) (.tup ys):=λO w σ v m=>by
 cases m with
 |tup f hc=> refine .tup (by rw [f,h.1]) λi y u B j=>?_;obtain⟨x,z,e⟩:=h.get i y B;exact(hc i x u z j).le e
theorem vY.rows {α:Type} {es:Nat} {t B:Bool} {l:List α} {f g:α->List V} (C:t=true->B=true)(h:∀x∈l,mQ (f x) (g x)):vY (.lst es B (l.map f)) (.lst es t (l.map g)):=by refine .lst (.inl rfl) C (by simp) λi x y m z=>?_;rw [List.getElem?_map,Option.map_eq_some_iff] at m z;obtain⟨a,e,rfl⟩:=m;obtain⟨b,j,rfl⟩:=z;rw [e] at j;obtain rfl:=zsi j;exact h a (zF e)
theorem vY.weak {es:Nat} {t:Bool} {xs:List (List V)} :vY (.lst es t xs) (.lst es false xs):= .lst (.inl rfl) (by simp) rfl λi x y f e=>by rw [f] at e;obtain rfl:=zsi e;exact mQ.refl x
theorem vY.nils {es es':Nat} {t:Bool} :vY (.lst es' t []) (.lst es false []):=.lst (.inr rfl) (by simp) rfl (by simp)
def LeO:Obj->Obj->Prop
 | .row es xs,.row es' ys=>es'=es/\xs.length=ys.length/\∀(i:Nat) (x y:List V),xs[i]? =some x->ys[i]? =some y->mQ x y
 | .box xs,.box ys=>mQ xs ys
 | .mp xs,.mp ys=>ys=xs
 | .bb xs,.bb ys=>ys=xs
 |_,_=>False
def pE:List Obj->List Obj->Prop
 | [],[]=>True
 |x::xs,y::ys=>LeO x y/\pE xs ys
 |_,_=>False
theorem LeO.refl(o:Obj):LeO o o:=by
 cases o with
 |row es xs=>exact⟨rfl,rfl,λi x y f e=>by rw [f] at e;obtain rfl:=zsi e;exact mQ.refl x⟩
 |box xs=>exact mQ.refl xs
 |mp xs=>rfl
 |bb l=>rfl
theorem pE.refl:∀l:List Obj,pE l l
 | []=>trivial
 |o::r=>⟨LeO.refl o,pE.refl r⟩
theorem pE.get:∀ {xs ys:List Obj},pE xs ys->xs.length=ys.length/\∀(i:Nat) (y:Obj),ys[i]? =some y->∃x,xs[i]? =some x/\LeO x y
 | [],[],_=>⟨rfl,by simp⟩
 | [],_::_,h=>h.elim
 |_::_,[],h=>h.elim
 |x::xs,y::ys,h=>by
  obtain⟨h1,h2⟩:=pE.get h.2;refine⟨by simp [h1],λi z e=>?_⟩
  cases i with
  |zero=>simp only [zH,zse] at e;subst e;exact⟨x,rfl,h.1⟩
  |succ i=>exact h2 i z (by simpa using e)
theorem lB.le {O:Nat->Prop} {w:World} {σ:Sg} {j:Option (Option Nat×Nat×Nat)} {x y:Obj} (h:lB O w σ j x)(e:LeO x y):lB O w σ j y:=by
 cases x with
 |row es xs=>
  cases y with
  |box _=>exact e.elim
  |mp _=>exact e.elim
  |bb _=>exact e.elim
  |row H F=>
   obtain⟨rfl,R,K⟩:=e;obtain⟨h1,h2⟩:=h;have C:∀(i:Nat) (y:List V),F[i]? =some y->∃x,xs[i]? =some x/\mQ x y:=λi y m=>by obtain⟨Q,-⟩:=List.getElem?_eq_some_iff.1 m;have :=zD (l:=xs) (i:=i) (by omega);exact⟨_,this,K i _ y this m⟩
   refine⟨λy m=>?_,?_⟩
   ·obtain⟨i,Q⟩:=zJ m;obtain⟨x,J,e⟩:=C i y Q;rw [<-e.1];exact h1 x (zF J)
   ·rcases j with _ | ⟨_ |b,H,cap⟩
    ·exact h2
    ·obtain⟨e1,z,B⟩:=h2;subst B;exact⟨e1,z,List.length_eq_zero_iff.1 (by rw [<-R];rfl)⟩
    ·obtain⟨e1,z,f,N,B,G,T⟩:=h2;refine⟨e1,by rw [<-R];exact z,f,N,B,G,λi y c v m E=>?_⟩;obtain⟨x,J,e⟩:=C i y m;obtain⟨hc,-⟩:=List.getElem?_eq_some_iff.1 E;have D:=zD (l:=x) (i:=c) (by rw [e.1];exact hc);obtain⟨u,q1,q2,M⟩:=T i x c _ J D;exact⟨u,q1,q2,M.le (e.2 c _ v D E)⟩
 |box xs=>
  cases y with
  |row _ _=>exact e.elim
  |mp _=>exact e.elim
  |bb _=>exact e.elim
  |box F=> obtain⟨b,e1,f,N,z,B,G⟩:=h;refine⟨b,by rw [e1,e.1],f,N,z,by rw [B,e.1],λc v E=>?_⟩;obtain⟨hc,-⟩:=List.getElem?_eq_some_iff.1 E;have D:=zD (l:=xs) (i:=c) (by rw [e.1];exact hc);obtain⟨u,q1,q2,M⟩:=G c _ D;exact⟨u,q1,q2,M.le (e.2 c _ v D E)⟩
 |mp xs=>
  cases y with
  |row _ _=>exact e.elim
  |box _=>exact e.elim
  |bb _=>exact e.elim
  |mp F=>obtain rfl:=e;exact h
 |bb xs=>
  cases y with
  |row _ _=>exact e.elim
  |box _=>exact e.elim
  |mp _=>exact e.elim
  |bb F=>obtain rfl:=e;exact h
theorem aM.le {P:Program} {f:FuncId} {ob0 C m:List Obj} {args z:List V} {N G:V} (h:aM P f ob0 args N C)(W:mQ z args)(hr:vY N G)(ho:pE C m):aM P f ob0 z G m:=by
 intro U σ w H hR hl J;obtain⟨hol,aa⟩:=ho.get;have E:∀(j:Nat) (o:Obj),(aH 0 m).get j=some o->∃F,(aH 0 C).get j=some F/\LeO F o:=by intro j o hj;rw [eI,if_pos (zM _),zL] at hj;obtain⟨x,hx,Z⟩:=aa j o hj;exact⟨x,by rw [eI,if_pos (zM _),zL];exact hx,Z⟩
 refine(h U σ w H hR (by rw [hl,W.1]) λi v c Q hc=>?_).mono λe w' ⟨cv,O,he,B,Q,g⟩=>?_
 ·obtain⟨hi,-⟩:=List.getElem?_eq_some_iff.1 Q;have hu:=zD (l:=z) (i:=i) (by rw [W.1];exact hi);exact(J i _ c hu hc).le (W.2 i _ v hu Q)
 ·have K:∀b,eW O (aH 0 m) b->eW O (aH 0 C) b:=λb ⟨k,o,es,cap,h1,h2⟩=>by obtain⟨F,T,-⟩:=E k o h1;exact⟨k,F,es,cap,T,h2⟩
  have D:∀b,Own U O (aH 0 m) b->Own U O (aH 0 C) b:=λb h=>h.imp id (K b);refine⟨cv,O,he,⟨λk o hk=>?_,λk k' o F b es cap R M h1 h2=>?_,λk hk=>?_,λb Y=>B.disj b (K b Y),B.ulim,B.gl.less D⟩,(Q.le hr).mono (cB.refl _ _) (λb _ h=>D b h) λ_ _=>rfl,⟨g.keep,λb Y hO=>g.own b Y (K b hO),g.sg,by rw [<-hol];exact g.nx⟩⟩
  ·obtain⟨F,h1,h2⟩:=E k o hk;exact(((B.obj k F h1).less D).le h2)
  ·obtain⟨p,T,-⟩:=E k o h1;obtain⟨p',h4,-⟩:=E k' F h2;exact B.inj k k' p p' b es cap R M T h4
  ·refine⟨?_,(B.fresh k (by omega)).2⟩;rw [eI,if_pos (zM _),zL,List.getElem?_eq_none (by omega)]
end Go.Sk
