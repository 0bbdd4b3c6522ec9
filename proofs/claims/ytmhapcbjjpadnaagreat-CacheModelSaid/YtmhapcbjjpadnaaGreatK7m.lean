/- Caches. -/
import Derived.Test.YtmhapcbjjpadnaaGreatK6m
set_option linter.unusedSimpArgs false
set_option linter.unusedVariables false
open Bool renaming and_eq_true→zC
open List renaming getElem?_eq_getElem→zD,mem_of_getElem?→zF,getElem?_cons_succ→zG,getElem?_cons_zero→zH,mem_cons_of_mem→zI,getElem?_of_mem→zJ,mem_singleton→zK
open Nat renaming eq_of_beq_eq_true→zA,le_of_ble_eq_true→zE,sub_zero→zL,zero_le→zM
set_option linter.unusedSectionVars false
namespace Go.Sk
open Go Go.RowKit
variable [fQ]
def aPZ(S:aC):V→Bool
 | .sl k off len=>match S.get k with
   |some (.row _ xs)=>Nat.ble (off+len) xs.length
   |_=>true
 | .slk k off len _=>match S.get k with
   |some (.row _ xs)=>Nat.ble (off+len) xs.length
   |_=>true
 | .ptr k i _=>match S.get k with
   |some (.box cs)=>Nat.beq i 0&&cs.all bW
   |_=>true
 |_=>true
def puB(S:aC):V→Bool
 | .agg cs=>cs.all (aPZ S)
 | .fn _ cs=>cs.all (aPZ S)
 |v=>aPZ S v
theorem aGR {S:aC} {v:V} (h:aPZ S v=true):gZ S v:=by
 cases v <;> simp only [gZ] <;> try trivial
 all_goals
  simp only [aPZ] at h
  split
  ·rename_i h1
   simp only [h1] at h
   first
    |exact zE h
    | (rw [zC] at h;exact⟨zA h.1,h.2⟩)
  ·trivial
theorem aTY {S:aC} {v:V} (h:puB S v=true):mI S v:=by
 have e:(∃cs,v=.agg cs)∨(∃f cs,v=.fn f cs)∨(puB S v=aPZ S v∧mI S v=gZ S v):=by cases v <;> simp [puB,mI]
 rcases e with ⟨cs,rfl⟩| ⟨f,cs,rfl⟩| ⟨h1,h2⟩
 ·exact fun c hc=>aGR (List.all_eq_true.1 h c hc)
 ·exact fun c hc=>aGR (List.all_eq_true.1 h c hc)
 ·rw [h1] at h;rw [h2];exact aGR h
def addN(k:Nat)(l:List Nat):List Nat:=match gE k l with |true=>l |false=>l++ [k]
def nm1:V→List Nat→List Nat
 | .ptr k _ _,l=>addN k l
 | .sl k _ _,l=>addN k l
 | .slx k _ _,l=>addN k l
 | .slk k _ _ _,l=>addN k l
 | .mp k,l=>addN k l
 |_,l=>l
def aJ1:List V→List Nat→List Nat
 | [],l=>l
 |v::r,l=>aJ1 r (nm1 v l)
def nm2:V→List Nat→List Nat
 | .agg cs,l=>aJ1 cs l
 | .fn _ cs,l=>aJ1 cs l
 | .tup cs,l=>nmT cs l
 |v,l=>nm1 v l
where nmT:List V→List Nat→List Nat
 | [],l=>l
 | .agg cs::r,l=>nmT r (aJ1 cs l)
 | .fn _ cs::r,l=>nmT r (aJ1 cs l)
 |v::r,l=>nmT r (nm1 v l)
def aSW:List V→List Nat→List Nat
 | [],l=>l
 |v::r,l=>aSW r (nm2 v l)
def nmB(S:aC):List Nat→List Nat→List Nat
 | [],l=>l
 |k::r,l=>match S.get k with
  |some (.box cs)=>nmB S r (aJ1 cs l)
  |_=>nmB S r l
def aIP(S:aC)(args:List V):List Nat:=
 let l:=aSW args []
 let l:=nmB S l l
 nmB S l l
def oU(S:aC)(L0:List Nat):List Nat→Option (List Obj)
 | []=>some []
 |k::L=>match S.get k,oU S L0 L with
  |some p,some obs=>some (aKJ L0 p::obs)
  |_,_=>none
theorem kY {S:aC} {L0:List Nat} :∀ {L:List Nat} {obs:List Obj},oU S L0 L=some obs→sX S L0 L obs
 | [],obs,h=>by obtain rfl:=Option.some.inj h;trivial
 |k::L,obs,h=>by
  simp only [oU] at h
  split at h
  ·rename_i p obs' h1 h2
   obtain rfl:=Option.some.inj h
   refine⟨?_,kY h2⟩
   rw [h1]
  ·cases h
def jS:List Obj→(List Obj→Prop)→Prop
 | [],K=>K []
 | .row es xs::r,K=>jS r fun r=>K (.row es xs::r)
 | .box cs::r,K=>gV cs fun cs=>jS r fun r=>K (.box cs::r)
 | .mp xs::r,K=>jS r fun r=>K (.mp xs::r)
 | .bb l::r,K=>jS r fun r=>K (.bb l::r)
theorem oQ(l:List Obj)(K:List Obj→Prop):jS l K=K l:=by
 induction l generalizing K with
 |nil=>rfl
 |cons o r ih=>cases o <;> simp only [jS,eK,ih]
def aA0(k:Nat):List (Option Nat)→Nat→Option Nat
 | [],_=>none
 |some h::t,j=>match Nat.beq k h with
  |true=>some j
  |false=>aA0 k t (j+1)
 |none::t,j=>aA0 k t (j+1)
theorem nW:∀ {k:Nat} {L:List (Option Nat)} {i j:Nat},aA0 k L i=some j→i≤j∧L[j-i]? =some (some k)
 |_,[],_,_,h=>by simp [aA0] at h
 |k,some h::t,i,j,hp=>by
  simp only [aA0] at hp
  split at hp
  ·rename_i hb
   obtain rfl:=Option.some.inj hp
   rw [zA hb];simp
  ·obtain⟨h1,h2⟩:=nW hp
   refine⟨by omega,?_⟩
   rw [show j-i=(j- (i+1))+1 by omega,zG];exact h2
 |k,none::t,i,j,hp=>by
  simp only [aA0] at hp
  obtain⟨h1,h2⟩:=nW hp
  refine⟨by omega,?_⟩
  rw [show j-i=(j- (i+1))+1 by omega,zG];exact h2
theorem rR:∀ {k:Nat} {L:List (Option Nat)} {i:Nat},aA0 k L i=none→aCQ k L=false
 |_,[],_,_=>rfl
 |k,some h::t,i,hp=>by
  simp only [aA0] at hp
  split at hp
  ·cases hp
  ·rename_i hb
   simp only [aCQ,hb,Bool.false_or];exact rR hp
 |k,none::t,i,hp=>by simp only [aA0] at hp;simp only [aCQ];exact rR hp
def uA(S:aC)(ids:List (Option Nat)):V→V
 | .sl k off len=>match aA0 k ids 0 with
   |some j=>.sl j off len
   |none=>match S.get k with
    |some (.row es xs)=>match Nat.ble (off+len) xs.length with
     |true=>.lst es false ((xs.drop off).take len)
     |false=>.any
    |_=>.any
 | .slk k off len c=>match aA0 k ids 0 with
   |some j=>.slk j off len c
   |none=>match S.get k with
    |some (.row es xs)=>match Nat.ble (off+len) xs.length with
     |true=>.lst es false ((xs.drop off).take len)
     |false=>.any
    |_=>.any
 | .ptr k i c=>match aA0 k ids 0 with
   |some j=>.ptr j i c
   |none=>.any
 | .mp k=>match aA0 k ids 0 with
   |some j=>.mp j
   |none=>.any
 | .lst es t xs=>.lst es t xs
 | .int k n=>.int k n
 | .bool b=>.bool b
 | .str s=>.str s
 | .nil=>.nil
 | .val v=>.val v
 | .rp es cs c=>.rp es cs c
 |_=>.any
theorem aBV(S:aC)(ids:List (Option Nat))(x:V):vw1 S ids x (uA S ids x):=by
 cases x with
 |sl k off len=>
  simp only [uA]
  split
  ·rename_i j hj
   have :=(nW hj).2
   exact⟨by simpa using this,rfl,rfl⟩
  ·rename_i hn
   split
   ·rename_i es xs ho
    split
    ·rename_i hb
     simp [vw1,ho,rR hn,zE hb]
    ·trivial
   ·trivial
 |slk k off len c=>
  simp only [uA]
  split
  ·rename_i j hj
   have :=(nW hj).2
   exact⟨by simpa using this,rfl,rfl,rfl⟩
  ·rename_i hn
   split
   ·rename_i es xs ho
    split
    ·rename_i hb
     simp [vw1,ho,rR hn,zE hb]
    ·trivial
   ·trivial
 |ptr k i c=>
  simp only [uA]
  split
  ·rename_i j hj
   have :=(nW hj).2
   exact⟨by simpa using this,rfl,rfl⟩
  ·trivial
 |mp k=>
  simp only [uA]
  split
  ·rename_i j hj
   have :=(nW hj).2
   simpa [vw1] using this
  ·trivial
 |lst es t xs=>exact⟨.inl rfl,id,rfl⟩
 |int k n=>exact⟨rfl,rfl⟩
 |bool b=>rfl
 |str s=>rfl
 |nil=>rfl
 |val v=>rfl
 |rp es cs c=>rfl
 |_=>trivial
theorem qB {p:V→V→Prop} {f:V→V} (h:∀x,p x (f x)):∀xs:List V,aHK p xs (xs.map f)
 | []=>trivial
 |x::r=>⟨h x,qB h r⟩
def aID(S:aC)(ids:List (Option Nat)):V→V
 | .agg cs=>.agg (cs.map (uA S ids))
 | .fn f cs=>.fn f (cs.map (uA S ids))
 |v=>uA S ids v
theorem vN(S:aC)(ids:List (Option Nat))(x:V):(∀cs,uA S ids x≠ .agg cs)∧(∀f cs,uA S ids x≠ .fn f cs)∧∀cs,uA S ids x≠ .tup cs:=by
 cases x <;> simp only [uA] <;>(repeat' split)<;> refine⟨?_,?_,?_⟩<;> intros <;> simp
theorem aYL {S:aC} {ids:List (Option Nat)} {x y:V} (h:vw1 S ids x y)(h1:∀cs,y≠ .agg cs)(h2:∀f cs,y≠ .fn f cs):vw2 S ids x y:=by
 unfold vw2
 split
 ·exact absurd rfl (h1 _)
 ·exact absurd rfl (h2 _ _)
 ·exact h
theorem aCL(S:aC)(ids:List (Option Nat))(x:V):(∃cs,x=.agg cs)∨(∃f cs,x=.fn f cs)∨aID S ids x=uA S ids x:=by
 cases x <;> simp [aID]
theorem aOO(S:aC)(ids:List (Option Nat))(x:V):vw2 S ids x (aID S ids x):=by
 rcases aCL S ids x with ⟨cs,rfl⟩| ⟨f,cs,rfl⟩|h
 ·exact qB (aBV S ids) cs
 ·exact⟨rfl,qB (aBV S ids) cs⟩
 ·rw [h];exact aYL (aBV S ids x) (vN S ids x).1 (vN S ids x).2.1
def aWN(S:aC)(ids:List (Option Nat)):V→V
 | .tup cs=>.tup (cs.map (aID S ids))
 |v=>aID S ids v
theorem aPH(S:aC)(ids:List (Option Nat))(x:V):∀cs,aID S ids x≠ .tup cs:=by
 rcases aCL S ids x with ⟨cs,rfl⟩| ⟨f,cs,rfl⟩|h
 ·intro cs h;cases h
 ·intro cs h;cases h
 ·rw [h];exact(vN S ids x).2.2
theorem aYM(S:aC)(ids:List (Option Nat))(x:V):vw3 S ids x (aWN S ids x):=by
 have e:(∃cs,x=.tup cs)∨aWN S ids x=aID S ids x:=by cases x <;> simp [aWN]
 rcases e with ⟨cs,rfl⟩|h
 ·exact qB (aOO S ids) cs
 ·rw [h]
  have hk:=aPH S ids x
  have hv:=aOO S ids x
  generalize aID S ids x=y at hk hv
  unfold vw3
  split
  ·exact absurd rfl (hk _)
  ·exact hv
def bIN(S:aC)(ids:List (Option Nat)):Obj→Obj
 | .row es xs=>.row es xs
 | .box cs=>.box (cs.map (uA S ids))
 | .mp xs=>.mp xs
 | .bb l=>.bb l
def aXA(S:aC)(ids:List (Option Nat)):List (Option Nat)→Option (List Obj)
 | []=>some []
 |some k::r=>match S.get k,aXA S ids r with
  |some o,some os=>some (bIN S ids o::os)
  |_,_=>none
 |none::_=>none
theorem aNO {S:aC} {ids:List (Option Nat)} :∀ {l:List (Option Nat)} {os:List Obj},aXA S ids l=some os→mN S ids l os
 | [],os,h=>by obtain rfl:=Option.some.inj h;trivial
 |some k::r,os,h=>by
  simp only [aXA] at h
  split at h
  ·rename_i o os' h1 h2
   obtain rfl:=Option.some.inj h
   refine⟨?_,aNO h2⟩
   rw [h1]
   cases o with
   |row es xs=>exact⟨rfl,rfl⟩
   |box cs=>exact qB (aBV S ids) cs
   |mp xs=>rfl
   |bb l=>rfl
  ·cases h
 |none::r,os,h=>by cases h
def aCJ:Nat→Nat→List (Option Nat)
 |_,0=> []
 |i,n+1=>some i::aCJ (i+1) n
theorem aAI:∀(n i:Nat) (r:List (Option Nat)),mA i n (aCJ i n++r)
 |0,_,_=>by simp [mA]
 |n+1,i,r=>⟨rfl,aAI n (i+1) r⟩
def aGY(n0:Nat):List Nat→List (Option Nat)
 | []=> []
 |k::r=>match Nat.blt k n0 with
  |true=>aGY n0 r
  |false=>some k::aGY n0 r
def aL1:List Nat→Nat→List (Option Nat)→List (Option Nat)
 |_,_,[]=> []
 |dp,i,x::r=>match gE i dp with
  |true=>aL1 dp (i+1) r
  |false=>x::aL1 dp (i+1) r
def bET(own:Bool)(dp:List Nat)(n0:Nat)(S:aC)(v:V):List (Option Nat):=
 aCJ 0 n0++(match own with
  |true=>aL1 dp 0 (aGY n0 (nmB S (nm2 v []) (nm2 v [])))
  |false=> [])
def rvF(st:St):RV→(V→Prop)→Prop
 | .tmp t,K=>K (bN st.sl [] (.t t))
 | .cell t agg n,K=>rdF st.so (.ld agg n (.t t)) (bN st.sl []) true K
def aY9(st:St):List RV→(List V→Prop)→Prop
 | [],K=>K []
 |r::rs,K=>rvF st r fun v=>kU v fun v=>aY9 st rs fun vs=>K (v::vs)
theorem aOG(st:St):∀(l:List RV) (K:List V→Prop),aY9 st l K=aE9 st l K
 | [],_=>rfl
 |r::rs,K=>by
  simp only [aY9,aE9,gD,aOG st rs]
  cases r with
  |tmp t=>rfl
  |cell t agg n=>simp only [rvF,rvK,aLP]
def aVH(n0:Nat)(own:Bool)(dp:List Nat)(rvs:List RV)(K:V→List Obj→Prop)(st:St):Prop:=
 aY9 st rvs fun vs=>match bET own dp n0 st.so (aLH vs) with
  |ids=>match aXA st.so ids ids with
   |some ob1=>rq (oW ids&&Nat.ble n0 ob1.length) (jS ob1 fun ob1=>kU (aWN st.so ids (aLH vs)) fun v=>K v ob1)
   |none=>False
theorem aSJ {S:aC} {agg:Bool} {n:Nat} {x:A} {e:A→V} {gc:Bool} {K K':V→Prop} (hm:∀v,K v→K' v)(h:fB S (.ld agg n x) e gc K):fB S (.ld agg n x) e gc K':=by
 simp only [fB] at h⊢
 split at h
 ·split at h
  ·exact⟨h.1,h.2.1,hm _ h.2.2⟩
  ·exact⟨h.1,hm _ h.2⟩
  ·exact⟨h.1,hm _ h.2⟩
 ·exact⟨h.1,hm _ h.2⟩
 ·exact⟨h.1,hm _ h.2⟩
theorem aA5 {st:St} :∀ {l:List RV} {K:List V→Prop},aE9 st l K→∃vs,K vs∧∀K',K' vs→aE9 st l K'
 | [],K,h=>⟨[],h,fun _ h=>h⟩
 |r::rs,K,h=>by
  simp only [aE9] at h
  cases r with
  |tmp t=>
   obtain⟨vs,h1,h2⟩:=aA5 (l:=rs) (K:=fun vs=>K (bN st.sl [] (.t t)::vs)) h
   exact⟨_,h1,fun K' h'=>h2 _ h'⟩
  |cell t agg n=>
   obtain⟨v,h1,h2⟩:=aGT (show fB st.so (.ld agg n (.t t)) (bN st.sl []) true (fun v=>aE9 st rs fun vs=>K (v::vs)) from h)
   obtain⟨vs,h3,h4⟩:=aA5 h1
   refine⟨v::vs,h3,fun K' h'=>?_⟩
   simp only [aE9,rvK]
   exact aSJ (fun v' e=>by subst e;exact h4 _ h') h2
theorem aMF {n0:Nat} {own:Bool} {dp:List Nat} {rvs:List RV} {K:V→List Obj→Prop} {st:St} (h:aVH n0 own dp rvs K st):∃res ob1,K res ob1∧aKC n0 rvs res ob1 st:=by
 unfold aVH at h
 rw [aOG] at h
 obtain⟨vs,h1,h2⟩:=aA5 h
 dsimp only at h1
 split at h1
 ·rename_i ob1 hob
  rw [eW,oQ,gD,zC] at h1
  obtain⟨⟨hn,hb⟩,hk⟩:=h1
  exact⟨_,_,hk,h2 _ ⟨_,aNO hob,hn,aAI n0 0 _,hb,aYM _ _ _⟩⟩
 ·exact h1.elim
end Go.Sk
namespace Go.Sk
open Go Go.RowKit
variable [fQ]
theorem aP4 {op:BinOp} {k:IntKind} {a b:Int} {gc:Bool} {K K':V→Prop} (hm:∀v,K v→K' v)(h:aB8 op k a b gc K):aB8 op k a b gc K':=by
 cases op <;> simp only [aB8] at h⊢<;> first |exact hm _ h |exact⟨h.1,hm _ h.2⟩
theorem aU5 {S:aC} {i:I} {e:A→V} {gc:Bool} {K K':V→Prop} (hm:∀v,K v→K' v)(h:fB S i e gc K):fB S i e gc K':=by
 revert h
 unfold fB
 repeat' split
 all_goals intro h
 all_goals first
  |exact h.elim
  |exact⟨h.1,aP4 hm h.2⟩
  |exact nB (fun r=>hm _) h
  |exact hm _ h
  |exact⟨h.1,hm _ h.2⟩
  |exact⟨h.1,h.2.1,hm _ h.2.2⟩
theorem aJZ {S:aC} {n:Nat} {i:I} {e:A→V} {K K':V→aC→Nat→Prop} (hm:∀a b c,K a b c→K' a b c)(h:mO S n i e K):mO S n i e K':=by
 revert h
 unfold mO
 repeat' split
 all_goals intro h
 all_goals first
  |exact h.elim
  |exact hm _ _ _ h
  |exact⟨h.1,hm _ _ _ h.2⟩
  |exact⟨h.1,h.2.1,hm _ _ _ h.2.2⟩
  |exact⟨h.1,h.2.1,h.2.2.1,hm _ _ _ h.2.2.2⟩
  |exact⟨h.1,h.2.1,h.2.2.1,h.2.2.2.1,hm _ _ _ h.2.2.2.2⟩
  |exact⟨h.1,h.2.1,h.2.2.1,h.2.2.2.1,h.2.2.2.2.1,hm _ _ _ h.2.2.2.2.2⟩
  | (obtain⟨h1,h2,h3⟩:=h
     revert h3
     repeat' split
     all_goals intro h
     all_goals first
      |exact h.elim
      |exact⟨h1,h2,h.1,h.2.1,hm _ _ _ h.2.2⟩
      |exact⟨h1,h2,h.1,h.2.1,h.2.2.1,h.2.2.2.1,h.2.2.2.2.1,hm _ _ _ h.2.2.2.2.2⟩)
theorem aCT {P:Program} {ssl:aX} {sso:aC} {snx:Nat} {ch:List (Nat×Bool)} {gc:Bool} {i:I} {K K':V→aC→Nat→Prop} (hm:∀a b c,K a b c→K' a b c)(h:cY P ssl sso snx ch gc i K):cY P ssl sso snx ch gc i K':=by
 have rd:∀i,cY P ssl sso snx ch gc i K→(∀K,cY P ssl sso snx ch gc i K=fB sso i (bN ssl ch) gc fun v=>K v sso snx)→cY P ssl sso snx ch gc i K':=by
  intro i h he
  rw [he] at h⊢
  exact aU5 (fun v=>hm _ _ _) h
 have wr:∀i,cY P ssl sso snx ch gc i K→(∀K,cY P ssl sso snx ch gc i K=kH ssl sso snx ch gc i K)→cY P ssl sso snx ch gc i K':=by
  intro i h he
  rw [he] at h⊢
  unfold kH at h⊢
  cases ch with
  |nil=>exact aJZ hm h
  |cons g r=>exact⟨fun e=>aJZ hm (h.1 e),fun e=>hm _ _ _ (h.2 e)⟩
 have alt:∀f (args:List V),lT (pE P f args sso gc fun v=>K v sso snx) ((gc=true→mX P f args sso snx K)∧(gc=false→K .any sso snx)) ((gc=true→oP P f args sso snx K)∧(gc=false→K .any sso snx)) ((gc=true→qR P f args sso snx K)∧(gc=false→K .any sso snx))→
  lT (pE P f args sso gc fun v=>K' v sso snx) ((gc=true→mX P f args sso snx K')∧(gc=false→K' .any sso snx)) ((gc=true→oP P f args sso snx K')∧(gc=false→K' .any sso snx)) ((gc=true→qR P f args sso snx K')∧(gc=false→K' .any sso snx)):=by
  rintro f args (⟨res,h1,h2,h3⟩| ⟨h1,h2⟩| ⟨h1,h2⟩| ⟨h1,h2⟩)
  ·exact .inl ⟨res,h1,h2,hm _ _ _ h3⟩
  ·exact .inr ⟨fun e=>by obtain⟨L,ob0,ob1,res,a1,a2,a3,a4,a5,a6⟩:=h1 e;exact⟨L,ob0,ob1,res,a1,a2,a3,a4,a5,hm _ _ _ a6⟩,fun e=>hm _ _ _ (h2 e)⟩
  ·exact .frz ⟨fun e=>by obtain⟨Fz,res,a1,a2,a3⟩:=h1 e;exact⟨Fz,res,a1,a2,hm _ _ _ a3⟩,fun e=>hm _ _ _ (h2 e)⟩
  ·exact .mov ⟨fun e=>by obtain⟨L,ob0,ob1,res,a1,a2,a3,a4,a5⟩:=h1 e;exact⟨L,ob0,ob1,res,a1,a2,a3,a4,hm _ _ _ a5⟩,fun e=>hm _ _ _ (h2 e)⟩
 cases i with
 |pick c a b=>
  cases c with
  |c v=>exact rd _ h fun _=>rfl
  |t tc=>
   simp only [cY] at h⊢
   split at h
   ·split at h
    ·exact hm _ _ _ h
    ·split at h
     ·exact hm _ _ _ h
     ·exact hm _ _ _ h
   ·exact⟨h.1,hm _ _ _ h.2⟩
 |build z ps=>
  simp only [cY] at h⊢
  split at h
  ·exact⟨h.1,hm _ _ _ h.2⟩
  ·exact h.elim
 |call f xs=>exact alt _ _ h
 |vcall x xs=>
  simp only [cY] at h⊢
  split at h
  ·exact⟨h.1,alt _ _ h.2⟩
  ·exact⟨h.1,hm _ _ _ h.2⟩
 |clr a b c=>exact wr _ h fun _=>rfl
 |alloc z=>exact wr _ h fun _=>rfl
 |box z=>exact wr _ h fun _=>rfl
 |st a b c=>exact wr _ h fun _=>rfl
 |mkmap a=>exact wr _ h fun _=>rfl
 |mput a b c=>exact wr _ h fun _=>rfl
 |mputp a b c=>exact wr _ h fun _=>rfl
 |bslice a b c d=>exact wr _ h fun _=>rfl
 |mk a b c d e=>exact wr _ h fun _=>rfl
 |app a b c d=>exact wr _ h fun _=>rfl
 |cpy a b c=>exact wr _ h fun _=>rfl
 |s2b a=>exact wr _ h fun _=>rfl
 |aslc a b c=>exact wr _ h fun _=>rfl
 |cpys a b=>exact wr _ h fun _=>rfl
 |_=>exact rd _ h fun _=>rfl
def aKP(e:A→V):I→List Nat
 | .st _ x _=>nH (e x)
 | .cpy _ x _=>nH (e x)
 | .cpys x _=>nH (e x)
 | .clr _ _ x=>nH (e x)
 | .mput x _ _=>nH (e x)
 | .mputp x _ _=>nH (e x)
 | .aslc _ x _=>nH (e x)
 | .app _ _ x _=>nH (e x)
 |_=> []
theorem aSC {v:V} {k off len:Nat} (h:tK v=.sl k off len):nH v=[k]:=by
 cases v <;> simp [tK] at h
 ·obtain⟨rfl,rfl,rfl⟩:=h;rfl
 ·obtain⟨rfl,rfl,rfl⟩:=h;rfl
theorem aPL {v:V} {k off len:Nat} (h:tK v=.slx k off len):nH v=[k]:=by
 cases v <;> simp [tK] at h
 obtain⟨rfl,rfl,rfl⟩:=h;rfl
theorem aK0 {S0 S:aC} {m n:Nat} {i:I} {e:A→V} {v:V} (h:mO S0 m i e fun a b c=>a=v∧b=S∧c=n) {k:Nat} (hk:k≠m)(hc:k∉aKP e i):S.get k=S0.get k:=by
 revert h
 unfold mO
 repeat' split
 all_goals intro h
 all_goals first
  |exact h.elim
  | (obtain⟨-,rfl,-⟩:=h;simp [aC.get_set,aC.get_del,hk];done)
  | (obtain⟨-,-,rfl,-⟩:=h;simp [aC.get_set,aC.get_del,hk];done)
  | (obtain⟨-,-,-,-,-,rfl,-⟩:=h;simp [aC.get_set,aC.get_del,hk];done)
  | (obtain⟨-,-,rfl,-⟩:=h
     rename_i e1 _ _ _
     simp only [aKP,e1,nH,aWR,zK] at hc
     simp [aC.get_set,aC.get_del,hc];done)
  |skip
 all_goals
  try exact h.2.2.elim
 all_goals
  have hc':k∉aKP e _:=hc
  simp only [aKP] at hc'
  first
   |rw [‹e _=V.ptr _ _ _›] at hc'
   |rw [‹e _=V.mp _›] at hc'
   |rw [aSC ‹tK (e _)=V.sl _ _ _›] at hc'
   |rw [aPL ‹tK (e _)=V.slx _ _ _›] at hc'
   |skip
  simp only [nH,aWR,zK] at hc'
  first
   | (obtain rfl:=h.2.2.1;simp [aC.get_set,aC.get_del,hk,hc'];done)
   | (obtain rfl:=h.2.2.2.1;simp [aC.get_set,aC.get_del,hk,hc'];done)
   | (obtain rfl:=h.2.2.2.2.1;simp [aC.get_set,aC.get_del,hk,hc'];done)
   | (obtain rfl:=h.2.2.2.2.2.1;simp [aC.get_set,aC.get_del,hk,hc'];done)
   | (obtain rfl:=h.2.2.2.2.2.2.2.2.1;simp [aC.get_set,aC.get_del,hk,hc'];done)
def eqL {α:Type} (f:α→α→Bool):List α→List α→Bool
 | [],[]=>true
 |x::r,y::q=>f x y&&eqL f r q
 |_,_=>false
theorem mR {α:Type} {f:α→α→Bool} (hf:∀x y,f x y=true→x=y):∀ {l m:List α},eqL f l m=true→l=m
 | [],[],_=>rfl
 |x::r,y::q,h=>by
  simp only [eqL,zC] at h
  rw [hf _ _ h.1,mR hf h.2]
 | [],_::_,h=>by cases h
 |_::_,[],h=>by cases h
def eqU(a b:UInt8):Bool:=Nat.beq a.toNat b.toNat
theorem bBF(a b:UInt8)(h:eqU a b=true):a=b:=UInt8.toNat_inj.1 (zA h)
def bEJ(a b:ByteArray):Bool:=eqL eqU a.data.toList b.data.toList
theorem aWF(a b:ByteArray)(h:bEJ a b=true):a=b:=by
 have :=mR bBF h
 cases a;cases b
 congr 1
 exact Array.toList_inj.1 this
def eqV:Nat→V→V→Bool
 |0,_,_=>false
 |n+1,a,b=>match a,b with
  | .any,.any=>true
  | .int k x,.int k' y=>decide (k=k')&&decide (x=y)
  | .bool x,.bool y=>x==y
  | .str x,.str y=>bEJ x y
  | .agg x,.agg y=>eqL (eqV n) x y
  | .tup x,.tup y=>eqL (eqV n) x y
  | .nil,.nil=>true
  | .ptr k i c,.ptr k' i' c'=>Nat.beq k k'&&(Nat.beq i i'&&Nat.beq c c')
  | .sl k i c,.sl k' i' c'=>Nat.beq k k'&&(Nat.beq i i'&&Nat.beq c c')
  | .lst e t x,.lst e' t' y=>Nat.beq e e'&&((t==t')&&eqL (eqL (eqV n)) x y)
  | .mp k,.mp k'=>Nat.beq k k'
  |_,_=>false
theorem sW:∀(n:Nat) (a b:V),eqV n a b=true→a=b
 |0,_,_,h=>by cases h
 |n+1,a,b,h=>by
  unfold eqV at h
  split at h <;>(try simp only [zC,decide_eq_true_eq,beq_iff_eq] at h)<;>(try cases h;done)
  ·rfl
  ·rw [h.1,h.2]
  ·rw [h]
  ·rw [aWF _ _ h]
  ·rw [mR (sW n) h]
  ·rw [mR (sW n) h]
  ·rfl
  ·rw [zA h.1,zA h.2.1,zA h.2.2]
  ·rw [zA h.1,zA h.2.1,zA h.2.2]
  ·rw [zA h.1,h.2.1,mR (fun x y=>mR (sW n)) h.2.2]
  ·rw [zA h]
def bBE:Option Obj→Option Obj→Bool
 |none,none=>true
 |some (.row e x),some (.row e' y)=>Nat.beq e e'&&eqL (eqL (eqV 12)) x y
 |some (.box x),some (.box y)=>eqL (eqV 12) x y
 |_,_=>false
theorem aWG {a b:Option Obj} (h:bBE a b=true):a=b:=by
 unfold bBE at h
 split at h
 ·rfl
 ·rw [zC] at h
  rw [zA h.1,mR (fun x y=>mR (sW 12)) h.2]
 ·rw [mR (sW 12) h]
 ·cases h
def aOH(SO S1:aC)(W:List Nat):List Nat→Bool
 | []=>true
 |k::r=>(gE k W||bBE (S1.get k) (SO.get k))&&aOH SO S1 W r
theorem aJL {SO S1:aC} {W:List Nat} :∀ {T:List Nat},aOH SO S1 W T=true→∀k∈T,k∉W→S1.get k=SO.get k
 | [],_,k,hk,_=>by cases hk
 |j::r,h,k,hk,hw=>by
  simp only [aOH,zC,Bool.or_eq_true] at h
  rcases List.mem_cons.1 hk with rfl |hk
  ·rcases h.1 with h1 |h1
   ·exact absurd (fJ.1 h1) hw
   ·exact aWG h1
  ·exact aJL h.2 k hk hw
def bHC(i:I)(SO S1:aC)(W T:List Nat):Bool:=
 match i with
 | .call f _=>match gE f fQ.ro with
   |true=>aOH SO S1 W T
   |false=>true
 |_=>true
abbrev Cx:=Nat→FuncId→List V→aC→Nat→(V→aC→Nat→Prop)→Prop
def aOY(P:Program)(cx:Cx):Prop:=∀d f args S m K,cx d f args S m K→∃v S' n',K v S' n'∧((S'=S∧n'=m∧∀K':V→Prop,K' v→pE P f args S true K')∨(n'=m+16∧∀K':V→aC→Nat→Prop,K' v S' n'→mX P f args S m K')∨(n'=m+1∧∀K':V→aC→Nat→Prop,K' v S' n'→oP P f args S m K')∨(n'=m+16∧∀K':V→aC→Nat→Prop,K' v S' n'→qR P f args S m K'))
def vI(P:Program)(f:FuncId):Bool:=
 match P.funcs[f]? with
 |some fn=>fn.body.isSome&& !(fn.name== "runtime.NumGoroutine")
 |none=>false
theorem aFY {P:Program} {f:FuncId} (h:vI P f=true):eP P f:=by
 unfold vI at h
 split at h
 ·rename_i fn hf
  rw [zC,Bool.not_eq_true'] at h
  exact⟨fn,hf,h.1,h.2⟩
 ·cases h
def aSH(P:Program)(cx:FuncId→List V→aC→Nat→(V→aC→Nat→Prop)→Prop)(ssl:aX)(sso:aC)(snx:Nat)(ch:List (Nat×Bool))(gc:Bool)(i:I)(K:V→aC→Nat→Prop):Prop:=
 match i with
 | .call f xs=>match gc with
   |true=>gV (xs.map (bN ssl ch)) fun a=>cx f a sso snx K
   |false=>K .any sso snx
 | .vcall x xs=>match bN ssl ch x with
   | .fn f caps=>rq (vI P f) (match gc with
     |true=>gV (xs.map (bN ssl ch)++caps) fun a=>cx f a sso snx K
     |false=>K .any sso snx)
   |_=>rq (!gc) (K .any sso snx)
 |i=>eA P ssl sso snx ch gc i K
def aCV:I→Bool
 | .call _ _=>true
 | .vcall _ _=>true
 |_=>false
theorem aIL {P:Program} {cx:Cx} (hcx:aOY P cx) {d:Nat} {ssl:aX} {sso:aC} {snx:Nat} {ch:List (Nat×Bool)} {gc:Bool} {i:I} {K:V→aC→Nat→Prop} (h:aSH P (cx d) ssl sso snx ch gc i K):
 ∃v S n,K v S n∧cY P ssl sso snx ch gc i (fun a b c=>a=v∧b=S∧c=n)∧(aCV i=true→(S=sso∧n=snx)∨n=snx+16∨n=snx+1):=by
 have alt:∀f (a:List V),cx d f a sso snx K→∃v S n,K v S n∧lT (pE P f a sso true fun v'=>v'=v∧sso=S∧snx=n) ((true=true→mX P f a sso snx fun a b c=>a=v∧b=S∧c=n)∧(true=false→.any=v∧sso=S∧snx=n)) ((true=true→oP P f a sso snx fun a b c=>a=v∧b=S∧c=n)∧(true=false→.any=v∧sso=S∧snx=n)) ((true=true→qR P f a sso snx fun a b c=>a=v∧b=S∧c=n)∧(true=false→.any=v∧sso=S∧snx=n))∧((S=sso∧n=snx)∨n=snx+16∨n=snx+1):=by
  intro f a h
  obtain⟨v,S',n',hk,⟨rfl,rfl,h1⟩| ⟨h0,h1⟩| ⟨h0,h1⟩| ⟨h0,h1⟩⟩:=hcx d f a sso snx K h
  ·exact⟨v,_,_,hk,.inl (h1 _ ⟨rfl,rfl,rfl⟩),.inl ⟨rfl,rfl⟩⟩
  ·exact⟨v,S',n',hk,.inr ⟨fun _=>h1 _ ⟨rfl,rfl,rfl⟩,(by intro h;cases h)⟩,.inr (.inl h0)⟩
  ·exact⟨v,S',n',hk,.frz ⟨fun _=>h1 _ ⟨rfl,rfl,rfl⟩,(by intro h;cases h)⟩,.inr (.inr h0)⟩
  ·exact⟨v,S',n',hk,.mov ⟨fun _=>h1 _ ⟨rfl,rfl,rfl⟩,(by intro h;cases h)⟩,.inr (.inl h0)⟩
 have plain:eA P ssl sso snx ch gc i K→aCV i=false→∃v S n,K v S n∧cY P ssl sso snx ch gc i (fun a b c=>a=v∧b=S∧c=n)∧(aCV i=true→(S=sso∧n=snx)∨n=snx+16∨n=snx+1):=by
  intro h hc
  rw [aGF] at h
  obtain⟨v,S,n,h1,h2⟩:=aIK (st:=⟨ssl,sso,snx⟩) h
  exact⟨v,S,n,h1,h2,fun h=>by rw [hc] at h;cases h⟩
 cases i with
 |call f xs=>
  simp only [aSH] at h
  cases gc with
  |true=>
   simp only [eK] at h
   obtain⟨v,S,n,h1,h2,h3⟩:=alt _ _ h
   exact⟨v,S,n,h1,h2,fun _=>h3⟩
  |false=>exact⟨_,_,_,h,.inr ⟨(by intro h;cases h),fun _=>⟨rfl,rfl,rfl⟩⟩,fun _=>.inl ⟨rfl,rfl⟩⟩
 |vcall x xs=>
  simp only [aSH] at h
  split at h
  ·rename_i f caps hx
   rw [eW] at h
   obtain⟨hc,h⟩:=h
   have hc:=aFY hc
   cases gc with
   |true=>
    simp only [eK] at h
    obtain⟨v,S,n,h1,h2,h3⟩:=alt _ _ h
    refine⟨v,S,n,h1,?_,fun _=>h3⟩
    unfold cY
    dsimp only
    rw [hx]
    exact⟨hc,h2⟩
   |false=>
    refine⟨_,_,_,h,?_,fun _=>.inl ⟨rfl,rfl⟩⟩
    unfold cY
    dsimp only
    rw [hx]
    exact⟨hc,.inr ⟨(by intro h;cases h),fun _=>⟨rfl,rfl,rfl⟩⟩⟩
  ·rename_i hx
   rw [aLZ] at h
   refine⟨_,_,_,h.2,?_,fun _=>.inl ⟨rfl,rfl⟩⟩
   unfold cY
   dsimp only
   split
   ·rename_i f caps e;exact absurd e (hx f caps)
   ·exact⟨h.1,rfl,rfl,rfl⟩
 |_=>exact plain h rfl
def aXG(P:Program)(cx:Cx):List oD→St→(St→Prop)→Prop
 | [],st,K=>K st
 | ⟨d,g,i⟩::r,⟨ssl,sso,snx⟩,K=>qJ ssl g fun ch gc=>aSH P (cx (d.getD 0)) ssl sso snx ch gc i fun v S n=>kU v fun v=>cV S fun S=>cG 64 0 n fun n=>aDI ssl d ⟨ch,gc,v⟩ fun sl=>aXG P cx r ⟨sl,S,n⟩ K
theorem aJ4 {P:Program} {cx:Cx} (hcx:aOY P cx):∀(l:List oD) (st:St) (K:St→Prop),aXG P cx l st K→∃st',K st'∧∀K':St→Prop,K' st'→uM P l st K'
 | [],st,K,h=>⟨st,h,fun _ h=>h⟩
 | ⟨d,g,i⟩::r,⟨ssl,sso,snx⟩,K,h=>by
   simp only [aXG,nD] at h
   simp only [uM]
   cases hg:guardOf ssl g with
   |none=>rw [hg] at h;exact h.elim
   |some p=>
    obtain⟨ch,gc⟩:=p
    rw [hg] at h
    obtain⟨v,S,n,h1,h2,-⟩:=aIL hcx h
    simp only [gD,dV,dQ,qX] at h1
    obtain⟨st',h3,h4⟩:=aJ4 hcx r _ K h1
    refine⟨st',h3,fun K' hK'=>?_⟩
    refine aCT (fun a b c e=>?_) h2
    obtain⟨rfl,rfl,rfl⟩:=e
    exact h4 K' hK'
theorem aLA {P:Program} {ssl:aX} {sso S:aC} {m n:Nat} {ch:List (Nat×Bool)} {gc:Bool} {i:I} {v:V} (h:cY P ssl sso m ch gc i fun a b c=>a=v∧b=S∧c=n)(hi:aCV i=false) {k:Nat} (hk:k≠m)(hc:k∉aKP (bN ssl ch) i):S.get k=sso.get k:=by
 have rd:∀i,cY P ssl sso m ch gc i (fun a b c=>a=v∧b=S∧c=n)→(∀K,cY P ssl sso m ch gc i K=fB sso i (bN ssl ch) gc fun v=>K v sso m)→S.get k=sso.get k:=by
  intro i h he
  rw [he] at h
  obtain⟨u,h1,-⟩:=aGT h
  obtain⟨-,rfl,-⟩:=h1
  rfl
 have wr:∀i,cY P ssl sso m ch gc i (fun a b c=>a=v∧b=S∧c=n)→(∀K,cY P ssl sso m ch gc i K=kH ssl sso m ch gc i K)→k∉aKP (bN ssl ch) i→S.get k=sso.get k:=by
  intro i h he hc
  rw [he] at h
  unfold kH at h
  cases ch with
  |nil=>exact aK0 h hk hc
  |cons g r=>
   cases gc with
   |true=>exact aK0 (h.1 rfl) hk hc
   |false=>obtain⟨-,rfl,-⟩:=h.2 rfl;rfl
 cases i with
 |pick c a b=>
  cases c with
  |c v=>exact rd _ h fun _=>rfl
  |t tc=>
   simp only [cY] at h
   split at h
   ·split at h
    ·obtain⟨-,rfl,-⟩:=h;rfl
    ·split at h
     ·obtain⟨-,rfl,-⟩:=h;rfl
     ·obtain⟨-,rfl,-⟩:=h;rfl
   ·obtain⟨-,-,rfl,-⟩:=h;rfl
 |build z ps=>
  simp only [cY] at h
  split at h
  ·obtain⟨-,-,rfl,-⟩:=h;rfl
  ·exact h.elim
 |call f xs=>cases hi
 |vcall x xs=>cases hi
 |clr a b c=>exact wr _ h (fun _=>rfl) hc
 |alloc z=>exact wr _ h (fun _=>rfl) hc
 |box z=>exact wr _ h (fun _=>rfl) hc
 |st a b c=>exact wr _ h (fun _=>rfl) hc
 |mkmap a=>exact wr _ h (fun _=>rfl) hc
 |mput a b c=>exact wr _ h (fun _=>rfl) hc
 |mputp a b c=>exact wr _ h (fun _=>rfl) hc
 |bslice a b c d=>exact wr _ h (fun _=>rfl) hc
 |mk a b c d e=>exact wr _ h (fun _=>rfl) hc
 |app a b c d=>exact wr _ h (fun _=>rfl) hc
 |cpy a b c=>exact wr _ h (fun _=>rfl) hc
 |s2b a=>exact wr _ h (fun _=>rfl) hc
 |aslc a b c=>exact wr _ h (fun _=>rfl) hc
 |cpys a b=>exact wr _ h (fun _=>rfl) hc
 |_=>exact rd _ h fun _=>rfl
theorem rC {SO S1:aC} {W:List Nat} {K:Prop} (hK:K):∀ {T:List Nat},(∀k∈T,k∉W→S1.get k=SO.get k)→aAY SO S1 W K T
 | [],_=>hK
 |k::r,h=>by
  simp only [aAY]
  split
  ·exact rC hK fun j hj=>h j (zI _ hj)
  ·rename_i hn
   exact⟨h k (by simp) (fun hm=>by rw [fJ.2 hm] at hn;cases hn),rC hK fun j hj=>h j (zI _ hj)⟩
def aRS(P:Program)(cx:Cx):St→Nat→Option Nat→Option (Nat×Bool)→I→(Rec→St→Prop)→Prop
 | ⟨ssl,sso,snx⟩,m,d,g,i,K=>
 cL (gsl g++aJX i) fun rds=>oR (look ssl rds) fun SL=>qJ SL g fun ch gc=>cL (qL i SL sso) fun T=>cV (gK sso T) fun SO=>cL (gsl g++chs SL) fun G=>
  aSH P (cx (d.getD 0)) SL SO m ch gc i fun v S1 n1=>kU v fun v=>cV S1 fun S1=>cL (wrI SL T m n1 i) fun W=>cL (W++aD3 m S1) fun ids=>
   rq ((vP T m S1&&(qS d G&&(aBY (m+16) ids&&(aEA W T&&(aEA (chT ch) G&&(aC1 m T&&Nat.ble n1 (m+16)))))))&&(aEA (aKP (bN SL ch) i) W&&bHC i SO S1 W T))
   (aDI ssl d ⟨ch,gc,v⟩ fun sl=>cV (uO sso S1 ids) fun so=>K ⟨m,rds++G,chT ch,d,⟨ch,gc,v⟩,T,ids,S1⟩ ⟨sl,so,snx⟩)
def aI4(P:Program)(cx:Cx):List oD→List Nat→St→(List Rec→St→Prop)→Prop
 | [],[],st,K=>K [] st
 | ⟨d,g,i⟩::r,m::ms,st,K=>aRS P cx st m d g i fun rc st'=>aI4 P cx r ms st' fun rs st''=>K (rc::rs) st''
 |_,_,_,_=>False
theorem aPC {P:Program} {cx:Cx} (hcx:aOY P cx):∀(st:St) (m:Nat) (d:Option Nat) (g:Option (Nat×Bool)) (i:I) (K:Rec→St→Prop),aRS P cx st m d g i K→∃rc st',K rc st'∧∀K':Rec→St→Prop,K' rc st'→aCF P st m d g i K'
 | ⟨ssl,sso,snx⟩,m,d,g,i,K,h=>by
   simp only [aRS,eJ,kT,nD,dV] at h
   simp only [aCF,eJ,kT,nD,dV]
   generalize hSL:look ssl (gsl g++aJX i)=SL at h⊢
   cases hg:guardOf SL g with
   |none=>rw [hg] at h;exact h.elim
   |some p=>
    obtain⟨ch,gc⟩:=p
    rw [hg] at h
    dsimp only at h⊢
    obtain⟨v,S1,n1,h1,h2,h3⟩:=aIL hcx h
    simp only [gD,eW,zC,qX] at h1
    obtain⟨⟨⟨a1,a2,a3,a4,a5,a6,a7⟩,a8,a9⟩,hkK⟩:=h1
    refine⟨_,_,hkK,fun K' hK'=>?_⟩
    refine aCT (fun a b c e=>?_) h2
    obtain⟨rfl,rfl,rfl⟩:=e
    simp only [gD,zC,qX]
    refine⟨⟨a1,a2,a3,a4,a5,a6,a7⟩,rC hK' fun k hk hw=>?_⟩
    have hkm:k≠m:=fun e=>sS a6 k hk ⟨by omega,by omega⟩
    cases hc:aCV i with
    |false=>exact aLA h2 hc hkm fun hm=>hw (kO a8 k hm)
    |true=>
     have go:∀j,c=m+(j+1)→b.get k=(gK sso (qL i SL sso)).get k:=by
      intro j e
      have hb:Nat.beq (m+(j+1)) m=false:=by
       cases hq:Nat.beq (m+(j+1)) m with
       |false=>rfl
       |true=>have :=zA hq;omega
      subst e
      cases i <;> try(cases hc;done)
      ·rename_i f xs
       cases hr:gE f fQ.ro with
       |true=>
        simp only [bHC,hr] at a9
        exact aJL a9 k hk hw
       |false=>
        exfalso
        apply hw
        simp only [wrI,hb,hr];exact hk
      ·exfalso
       apply hw
       simp only [wrI,hb];exact hk
     rcases h3 hc with ⟨e,-⟩|e |e
     ·rw [e]
     ·exact go 15 e
     ·exact go 0 e
theorem vJ {P:Program} {cx:Cx} (hcx:aOY P cx):∀(l:List oD) (ms:List Nat) (st:St) (K:List Rec→St→Prop),aI4 P cx l ms st K→∃rs st',K rs st'∧∀K':List Rec→St→Prop,K' rs st'→lY P l ms st K'
 | [],[],st,K,h=>⟨_,_,h,fun _ h=>h⟩
 | [],_::_,st,K,h=>h.elim
 | ⟨d,g,i⟩::r,[],st,K,h=>h.elim
 | ⟨d,g,i⟩::r,m::ms,st,K,h=>by
   simp only [aI4] at h
   simp only [lY]
   obtain⟨rc,st',h1,h2⟩:=aPC hcx _ _ _ _ _ _ h
   obtain⟨rs,st'',h3,h4⟩:=vJ hcx r ms st' _ h1
   exact⟨rc::rs,st'',h3,fun K' hK'=>h2 _ (h4 _ hK')⟩
def ul:RC→RC
 | .seq a b=>.seq (ul a) (ul b)
 | .cond c a b=>.cond c (ul a) (ul b)
 | .block id a=>.block id (ul a)
 | .loop a=>.uloop (ul a)
 | .uloop a=>.uloop (ul a)
 |rc=>rc
theorem fZ:∀rc:RC,strip (ul rc)=strip rc
 | .seq a b=>by simp only [ul,strip,fZ a,fZ b]
 | .cond c a b=>by simp only [ul,strip,fZ a,fZ b]
 | .block id a=>by simp only [ul,strip,fZ a]
 | .loop a=>by simp only [ul,strip,fZ a]
 | .uloop a=>by simp only [ul,strip,fZ a]
 | .skip=>rfl
 | .reg _ _=>rfl
 | .dreg .. =>rfl
 | .cut _ _=>rfl
 | .regc .. =>rfl
 | .regv .. =>rfl
 | .exit _=>rfl
 | .ret=>rfl
 | .bad=>rfl
def kQ(P:Program)(cx:Cx)(lf:Nat):RC→St→(Ex→St→Prop)→Prop
 | .skip,st,K=>K .normal st
 | .reg l kill,st,K=>aXG P cx l st fun | ⟨sl0,so0,nx0⟩=>eH kill sl0 fun sl=>K .normal ⟨sl,so0,nx0⟩
 | .dreg b0 n l kill an ms,st,K=>match Nat.ble st.nx b0 with
   |true=>aI4 P cx l ms ⟨st.sl,st.so,n⟩ fun |recs,⟨sl0,so0,nx0⟩=>rq (lX recs an 0)<|eH kill (look sl0 (pS sl0)) fun sl=>K .normal ⟨sl,so0,nx0⟩
   |false=>aI4 P cx l (shM st.nx ms) ⟨st.sl,st.so,n+st.nx⟩ fun |recs,⟨sl0,so0,nx0⟩=>rq (lX recs an 0)<|eH kill (look sl0 (pS sl0)) fun sl=>K .normal ⟨sl,so0,nx0⟩
 | .seq a b,st,K=>kQ P cx lf a st fun e st'=>match e with
   | .normal=>kQ P cx lf b st' K
   | .exit id=>K (.exit id) st'
   | .ret=>K .ret st'
 | .cond c a b,st,K=>match bN st.sl [] c with
   | .bool x=>cq x (kQ P cx lf a st K) (kQ P cx lf b st K)
   |_=>False
 | .block id c,st,K=>kQ P cx lf c st fun e st'=>match e with
   | .exit j=>match Nat.beq j id with
     |true=>K .normal st'
     |false=>K (.exit j) st'
   | .normal=>K .normal st'
   | .ret=>K .ret st'
 | .loop c,st,K=>sL (kQ P cx lf c) K lf st
 | .uloop c,st,K=>sL (kQ P cx lf c) K lf st
 | .exit id,st,K=>K (.exit id) st
 | .ret,st,K=>K .ret st
 |_,_,_=>False
def bE0(f g:St→(Ex→St→Prop)→Prop):Prop:=∀st K,f st K→∃e st',K e st'∧∀K':Ex→St→Prop,K' e st'→g st K'
theorem aCW {f g:St→(Ex→St→Prop)→Prop} (h:bE0 f g):∀(n:Nat) (st:St) (K:Ex→St→Prop),sL f K n st→∃e st',K e st'∧∀K':Ex→St→Prop,K' e st'→∃n',sL g K' n' st
 |0,_,_,hi=>hi.elim
 |n+1,st,K,hi=>by
  obtain⟨e,st',h1,h2⟩:=h st _ hi
  cases e with
  |normal=>
   obtain⟨e2,st2,h3,h4⟩:=aCW h n st' K h1
   refine⟨e2,st2,h3,fun K' hK'=>?_⟩
   obtain⟨n',h5⟩:=h4 K' hK'
   exact⟨n'+1,h2 _ h5⟩
  |exit id=>exact⟨_,_,h1,fun K' hK'=>⟨1,h2 _ hK'⟩⟩
  |ret=>exact⟨_,_,h1,fun K' hK'=>⟨1,h2 _ hK'⟩⟩
theorem rK {P:Program} {cx:Cx} (hcx:aOY P cx)(lf n0:Nat):∀rc:RC,bE0 (kQ P cx lf rc) (cX P n0 (ul rc)):=by
 intro rc
 induction rc with
 |skip=>intro st K h;exact⟨_,_,h,fun _ h=>h⟩
 |exit id=>intro st K h;exact⟨_,_,h,fun _ h=>h⟩
 |ret=>intro st K h;exact⟨_,_,h,fun _ h=>h⟩
 |reg l kill=>
  intro st K h
  simp only [kQ,gC] at h
  obtain⟨⟨sl0,so0,nx0⟩,h1,h2⟩:=aJ4 hcx l st _ h
  exact⟨_,_,h1,fun K' hK'=>h2 _ hK'⟩
 |dreg b0 n l kill an ms=>
  intro st K h
  simp only [kQ,gC,eW] at h
  split at h
  ·rename_i hb
   obtain⟨rs,⟨sl0,so0,nx0⟩,h1,h2⟩:=vJ hcx l ms _ _ h
   exact⟨_,_,h1.2,fun K' hK'=>by simp only [ul,cX,hb];exact h2 _ ⟨h1.1,hK'⟩⟩
  ·rename_i hb
   obtain⟨rs,⟨sl0,so0,nx0⟩,h1,h2⟩:=vJ hcx l _ _ _ h
   exact⟨_,_,h1.2,fun K' hK'=>by simp only [ul,cX,hb];exact h2 _ ⟨h1.1,hK'⟩⟩
 |seq a b iha ihb=>
  intro st K h
  obtain⟨e,st',h1,h2⟩:=iha st _ h
  cases e with
  |normal=>
   obtain⟨e2,st2,h3,h4⟩:=ihb st' K h1
   exact⟨e2,st2,h3,fun K' hK'=>h2 _ (h4 _ hK')⟩
  |exit id=>exact⟨_,_,h1,fun K' hK'=>h2 _ hK'⟩
  |ret=>exact⟨_,_,h1,fun K' hK'=>h2 _ hK'⟩
 |cond c a b iha ihb=>
  intro st K h
  simp only [kQ] at h
  split at h
  ·rename_i x hx
   cases x with
   |true=>
    obtain⟨e,st',h1,h2⟩:=iha st K h
    refine⟨e,st',h1,fun K' hK'=>?_⟩
    simp only [ul,cX,hx]
    exact⟨fun _=>h2 _ hK',(by intro h;cases h)⟩
   |false=>
    obtain⟨e,st',h1,h2⟩:=ihb st K h
    refine⟨e,st',h1,fun K' hK'=>?_⟩
    simp only [ul,cX,hx]
    exact⟨(by intro h;cases h),fun _=>h2 _ hK'⟩
  ·exact h.elim
 |block id c ih=>
  intro st K h
  obtain⟨e,st',h1,h2⟩:=ih st _ h
  cases e with
  |normal=>exact⟨_,_,h1,fun K' hK'=>h2 _ hK'⟩
  |ret=>exact⟨_,_,h1,fun K' hK'=>h2 _ hK'⟩
  |exit j=>
   dsimp only at h1
   split at h1
   ·rename_i hj
    exact⟨_,_,h1,fun K' hK'=>h2 _ (by show if j=id then K' .normal st' else K' (.exit j) st';rw [if_pos (zA hj)];exact hK')⟩
   ·rename_i hj
    exact⟨_,_,h1,fun K' hK'=>h2 _ (by show if j=id then K' .normal st' else K' (.exit j) st';rw [if_neg (Nat.ne_of_beq_eq_false hj)];exact hK')⟩
 |loop c ih=>intro st K h;exact aCW ih lf st K h
 |uloop c ih=>intro st K h;exact aCW ih lf st K h
 |_=>intro st K h;exact h.elim
end Go.Sk
namespace Go.Sk
open Go Go.RowKit
variable [fQ]
structure En(P:Program) where
 ext:Bool→FuncId→List Obj→List V→Option (V×List Obj)
 hext:∀own f ob0 args v ob1,ext own f ob0 args=some (v,ob1)→aQ P f ob0 args v ob1
 qg:Option FuncId
 hq:∀g,qg=some g→Quiet P g
 md:FuncId→Nat→FuncId→Nat
 lf:Nat
 fz:FuncId→List Nat
abbrev aVO:=Nat→FuncId→List Obj→List V→(V→List Obj→Prop)→Prop
def FnB(P:Program)(md:Nat)(f:FuncId)(ob0:List Obj)(args:List V)(res:V)(ob1:List Obj):Prop:=
 match md with
 |3=>FnM P f ob0 args res ob1
 |_=>aQ P f ob0 args res ob1
def aYW(P:Program)(run:aVO):Prop:=∀md f ob0 a K,run md f ob0 a K→∃res ob1,K res ob1∧FnB P md f ob0 a res ob1
def aEG {P:Program} (E:En P)(run:aVO)(caller:FuncId):Cx:=fun d f args S m K=>
 match E.md caller d f with
 |1=>cL (aIP S args) fun L=>match oU S L L with
  |some ob0=>jS ob0 fun ob0=>gV (args.map (arg2 L)) fun a=>run 1 f ob0 a fun res ob1=>rq (jH L&&(Nat.ble L.length ob1.length&&Nat.ble ob1.length (L.length+16))) (K (aBE L m res) (lH S L (ob1.map (lE L m)) m) (m+16))
  |none=>False
 |2=>cL (aSW args []) fun L=>rq (args.all (puB S)&&args.all (aC3 L))<|gV (args.map (pur S)) fun a=>run 0 f [] a fun res ob1=>match ob1 with
  | []=>K res (iJ S L) (m+1)
  |_::_=>False
 |3=>cL (aIP S args) fun L=>match oU S L L with
  |some ob0=>jS ob0 fun ob0=>gV (args.map (arg2 L)) fun a=>run 3 f ob0 a fun res ob1=>rq (jH L&&Nat.ble ob1.length 16) (K (aBE [] m res) (lH (iJ S L) [] (ob1.map (lE [] m)) m) (m+16))
  |none=>False
 |_=>rq (args.all (puB S))<|gV (args.map (pur S)) fun a=>run 0 f [] a fun res ob1=>match ob1 with
  | []=>rq (args.all aF6||aA8 res) (K res S m)
  |_::_=>False
theorem aCM {S:aC} {L:List Nat} :∀ {l:List V},l.all (puB S)=true→l.all (aC3 L)=true→aIE S L l
 | [],_,_=>trivial
 |v::r,h1,h2=>by
  simp only [List.all_cons,zC] at h1 h2
  exact⟨⟨aTY h1.1,h2.1⟩,aCM h1.2 h2.2⟩
theorem aRJ {P:Program} (E:En P) {run:aVO} (hr:aYW P run)(caller:FuncId):aOY P (aEG E run caller):=by
 intro d f args S m K h
 simp only [aEG] at h
 split at h
 ·simp only [eJ] at h
  split at h
  ·rename_i ob0 hob
   simp only [oQ,eK] at h
   obtain⟨res,ob1,h1,h2⟩:=hr _ _ _ _ _ h
   simp only [eW,zC] at h1
   obtain⟨⟨hn,hl1,hl2⟩,hk⟩:=h1
   exact⟨_,_,_,hk,.inr (.inl ⟨rfl,fun K' hK'=>⟨_,ob0,ob1,res,h2,kY hob,hn,hl1,hl2,hK'⟩⟩)⟩
  ·exact h.elim
 ·simp only [eJ,eW,eK,zC] at h
  obtain⟨⟨hp,hq⟩,h⟩:=h
  obtain⟨res,ob1,h1,h2⟩:=hr _ _ _ _ _ h
  cases ob1 with
  |cons o r=>exact h1.elim
  |nil=>exact⟨_,_,_,h1,.inr (.inr (.inl ⟨rfl,fun K' hK'=>⟨_,res,h2,aCM hp hq,hK'⟩⟩))⟩
 ·simp only [eJ] at h
  split at h
  ·rename_i ob0 hob
   simp only [oQ,eK] at h
   obtain⟨res,ob1,h1,h2⟩:=hr _ _ _ _ _ h
   simp only [eW,zC] at h1
   obtain⟨⟨hn,hl⟩,hk⟩:=h1
   exact⟨_,_,_,hk,.inr (.inr (.inr ⟨rfl,fun K' hK'=>⟨_,ob0,ob1,res,h2,kY hob,hn,hl,hK'⟩⟩))⟩
  ·exact h.elim
 ·simp only [eW,eK] at h
  obtain⟨hp,h⟩:=h
  obtain⟨res,ob1,h1,h2⟩:=hr _ _ _ _ _ h
  cases ob1 with
  |cons o r=>exact h1.elim
  |nil=>
   dsimp only at h1
   rw [Bool.or_eq_true] at h1
   exact⟨_,_,_,h1.2,.inl ⟨rfl,rfl,fun K' hK'=>⟨res,fun _=>⟨fun v hv=>aTY (List.all_eq_true.1 hp v hv),h2⟩,h1.1,hK'⟩⟩⟩
def aY6(n0:Nat)(own:Bool)(dp:List Nat)(rvs:List RV)(K:V→List Obj→Prop)(e:Ex)(st:St):Prop:=
 match e with
 | .normal=>aVH n0 own dp rvs K st
 | .ret=>aVH n0 own dp rvs K st
 | .exit _=>False
theorem aGZ {P:Program} {n0:Nat} {own:Bool} {dp:List Nat} {rvs:List RV} {K:V→List Obj→Prop} {e:Ex} {st:St} (h:aY6 n0 own dp rvs K e st):∃res ob1,K res ob1∧fO P n0 rvs res ob1 e st:=by
 cases e with
 |normal=>exact aMF h
 |ret=>exact aMF h
 |exit id=>exact h.elim
def bJY(f:St→Prop)(e:Ex)(st:St):Prop:=
 match e with
 | .normal=>f st
 | .exit _=>False
 | .ret=>False
def bGS(a b:Option Nat):Bool:=
 match a,b with
 |some a,some b=>Nat.beq a b
 |_,_=>false
def aE8 {P:Program} (E:En P):Nat→aVO
 |0=>fun _ _ _ _ _=>False
 |n+1=>fun md f ob0 args K=>match(match md with |3=>none |_=>E.ext (Nat.beq md 1) f ob0 args) with
  |some (v,ob1)=>gV [v] fun l=>match l with |v::_=>jS ob1 fun ob1=>K v ob1 | []=>False
  |none=>match P.funcs[f]? with
   |some fn=>match fn.body,fn.results.toList.mapM (iU P) with
    |some c,some rvs=>rq (Nat.ble args.length fn.ntmps)<|cG 16 0 ob0.length fun n0=>match aI1 P c with
     |some (ca,o,g,cb)=>rq (bGS (some g) E.qg&& !Nat.beq md 3)<|match aJH P fn.ntmps (jT rvs) [] ca cb with
      |some (ra,rb)=>kQ P (aEG E (aE8 E n) f) E.lf ra ⟨eL 0 args,aL 0 ob0,n0⟩ (bJY fun st=>kQ P (aEG E (aE8 E n) f) E.lf rb st (aY6 n0 (Nat.beq md 1) (E.fz f) rvs K))
      |none=>False
     |none=>match aGX P fn.ntmps (jT rvs) [] c with
      |some rc=>match md with
       |3=>kQ P (aEG E (aE8 E n) f) E.lf rc ⟨eL 0 args,aL 0 ob0,n0⟩ (aY6 0 true (E.fz f) rvs K)
       |_=>kQ P (aEG E (aE8 E n) f) E.lf rc ⟨eL 0 args,aL 0 ob0,n0⟩ (aY6 n0 (Nat.beq md 1) (E.fz f) rvs K)
      |none=>False
    |_,_=>False
   |none=>False
theorem aKD {P:Program} {md:Nat} {f:FuncId} {ob0 ob1:List Obj} {args:List V} {res:V} (hm:md≠3)(h:aQ P f ob0 args res ob1):FnB P md f ob0 args res ob1:=by
 unfold FnB
 split
 ·exact absurd rfl hm
 ·exact h
theorem aH1 {P:Program} (E:En P):∀n,aYW P (aE8 E n)
 |0=>fun _ _ _ _ _ h=>h.elim
 |n+1=>by
  intro md f ob0 args K h
  have hcx:=aRJ E (aH1 E n) f
  simp only [aE8] at h
  split at h
  ·rename_i v ob1 he
   simp only [eK,oQ] at h
   split at he
   ·cases he
   ·rename_i hm
    exact⟨v,ob1,h,aKD (fun e=>hm e) (E.hext _ _ _ _ _ _ he)⟩
  ·split at h
   ·rename_i fn hf
    split at h
    ·rename_i c rvs hb hrv
     rw [eW,dQ] at h
     obtain⟨hn,h⟩:=h
     have hb0:fn.body.isSome=true:=by rw [hb];rfl
     have hg:fn.body.getD .skip=c:=by rw [hb];rfl
     split at h
     ·rename_i ca o g cb hd
      rw [eW,zC] at h
      obtain⟨⟨hq,hm⟩,h⟩:=h
      have hm:md≠3:=fun e=>by subst e;cases hm
      have hq:E.qg=some g:=by
       cases hE:E.qg with
       |none=>rw [hE] at hq;cases hq
       |some g'=>rw [hE] at hq;rw [zA (show Nat.beq g g'=true from hq)]
      split at h
      ·rename_i ra rb hres
       obtain⟨s1,s2⟩:=aAV hres
       obtain⟨e,st',h1,h2⟩:=rK hcx E.lf ob0.length ra _ _ h
       cases e with
       |exit id=>exact h1.elim
       |ret=>exact h1.elim
       |normal=>
        obtain⟨e2,st2,h3,h4⟩:=rK hcx E.lf ob0.length rb _ _ h1
        obtain⟨res,ob1,h5,h6⟩:=aGZ (P:=P) h3
        exact⟨res,ob1,h5,aKD hm (aN0 hf hb0 (by rw [hg];exact hd) (E.hq g hq) (by rw [fZ];exact s1) (by rw [fZ];exact s2) hrv (zE hn) (h2 _ (h4 _ h6)))⟩
      ·exact h.elim
     ·split at h
      ·rename_i rc hres
       split at h
       ·obtain⟨e,st',h1,h2⟩:=rK hcx E.lf 0 rc _ _ h
        obtain⟨res,ob1,h5,h6⟩:=aGZ (P:=P) h1
        exact⟨res,ob1,h5,aS1 hf hb0 (by rw [fZ,hg];exact pF hres) hrv (zE hn) (h2 _ h6)⟩
       ·rename_i hm
        obtain⟨e,st',h1,h2⟩:=rK hcx E.lf ob0.length rc _ _ h
        obtain⟨res,ob1,h5,h6⟩:=aGZ (P:=P) h1
        exact⟨res,ob1,h5,aKD (fun e=>hm e) (aZ1 hf hb0 (by rw [fZ,hg];exact pF hres) hrv (zE hn) (h2 _ h6))⟩
      ·exact h.elim
    ·exact h.elim
   ·exact h.elim
def isTrue(v:V)(obs:List Obj):Prop:=
 match v,obs with
 | .bool true,[]=>True
 |_,_=>False
theorem aUK {P:Program} (E:En P)(n:Nat) {f:FuncId} {args:List V} (h:aE8 E n 0 f [] args isTrue=True):aQ P f [] args (.bool true) []:=by
 have h:aE8 E n 0 f [] args isTrue:=by rw [h];trivial
 obtain⟨res,ob1,h1,h2⟩:=aH1 E n _ _ _ _ _ h
 unfold isTrue at h1
 split at h1
 ·exact h2
 ·exact h1.elim
def isEq(u v:V)(obs:List Obj):Prop:=
 match obs with
 | []=>match eqV 12 u v with
   |true=>True
   |false=>False
 |_::_=>False
theorem run_eq {P:Program} (E:En P)(n:Nat) {f:FuncId} {args:List V} {v:V} (h:aE8 E n 0 f [] args (isEq v)=True):aQ P f [] args v []:=by
 have h:aE8 E n 0 f [] args (isEq v):=by rw [h];trivial
 obtain⟨res,ob1,h1,h2⟩:=aH1 E n _ _ _ _ _ h
 unfold isEq at h1
 split at h1
 ·split at h1
  ·rename_i he
   rw [sW 12 _ _ he]
   exact h2
  ·exact h1.elim
 ·exact h1.elim
end Go.Sk
namespace Go.Sk
open Go Go.RowKit
variable [fQ]
def tN(x y:V):Prop:=∀(O:Nat→Prop) (w:World) (σ:Sg) (v:Value),VR O w σ x v→VR O w σ y v
theorem tN.refl(v:V):tN v v:=fun _ _ _ _ h=>h
theorem VR.le {O:Nat→Prop} {w:World} {σ:Sg} {x y:V} {v:Value} (hv:VR O w σ x v)(h:tN x y):VR O w σ y v:=h O w σ v hv
def kF(xs ys:List V):Prop:=xs.length=ys.length∧∀(c:Nat) (u v:V),xs[c]? =some u→ys[c]? =some v→tN u v
theorem kF.refl(xs:List V):kF xs xs:=⟨rfl,fun c u v hu hv=>by rw [hu] at hv;obtain rfl:=Option.some.inj hv;exact .refl u⟩
theorem kF.nil:kF [] []:=.refl []
theorem kF.cons {x y:V} {xs ys:List V} (h:tN x y)(hs:kF xs ys):kF (x::xs) (y::ys):=by
 refine⟨by simp [hs.1],fun c u v hu hv=>?_⟩
 cases c with
 |zero=>
  simp only [zH,Option.some.injEq] at hu hv
  subst hu hv;exact h
 |succ c=>exact hs.2 c u v (by simpa using hu) (by simpa using hv)
theorem kF.get {xs ys:List V} (h:kF xs ys)(i:Nat)(y:V)(hy:ys[i]? =some y):∃x,xs[i]? =some x∧tN x y:=by
 obtain⟨hi,-⟩:=List.getElem?_eq_some_iff.1 hy
 have hx:=zD (l:=xs) (i:=i) (by rw [h.1];exact hi)
 exact⟨_,hx,h.2 i _ y hx hy⟩
theorem tN.lst {es es':Nat} {t t':Bool} {xs ys:List (List V)} (he:es'=es∨xs=[])(ht:t=true→t'=true)(hl:xs.length=ys.length)
 (h:∀(i:Nat) (x y:List V),xs[i]? =some x→ys[i]? =some y→kF x y):tN (.lst es' t' xs) (.lst es t ys):=by
 intro O w σ v hv
 cases hv with
 | @lst _ _ _ _ a cap b o cv ha hes hcap ht' hc1 hc3 hc2=>
   have hy:∀(i:Nat) (y:List V),ys[i]? =some y→∃x,xs[i]? =some x∧i<xs.length:=fun i y hy=>by
    obtain⟨hi,-⟩:=List.getElem?_eq_some_iff.1 hy
    have :=zD (l:=xs) (i:=i) (by omega)
    exact⟨_,this,by omega⟩
   rcases he with rfl |rfl
   ·rw [hl]
    refine .lst b o cv (fun hne=>ha (fun e=>hne (List.length_eq_zero_iff.1 (by rw [←hl,e];rfl)))) (fun y hy'=>?_) (by omega) (fun hh=>by rw [←hl];exact ht' (ht hh)) (fun i c hi hc=>hc1 i c (by omega) hc) (fun i c hi hc=>hc3 i c (by omega) hc) fun i y c v' hy' hv'=>?_
    ·obtain⟨i,hi⟩:=zJ hy'
     obtain⟨x,hx,-⟩:=hy i y hi
     rw [←(h i x y hx hi).1];exact hes x (zF hx)
    ·obtain⟨x,hx,-⟩:=hy i y hy'
     obtain⟨u,hu,hle⟩:=(h i x y hx hy').get c v' hv'
     exact(hc2 i x c u hx hu).le hle
   ·obtain rfl:ys=[]:=List.length_eq_zero_iff.1 (by rw [←hl];rfl)
    exact .lst (xs:= []) b o cv (by simp) (by simp) hcap (fun hh=>ht' (ht hh)) (by simp) (by simp) (by simp)
theorem tN.aggs {xs ys:List V} (h:kF xs ys):tN (.agg xs) (.agg ys):=fun O w σ v hv=>by
 cases hv with
 |agg hn hc=>
  refine .agg (by rw [hn,h.1]) fun i y u hy hu=>?_
  obtain⟨x,hx,hle⟩:=h.get i y hy
  exact(hc i x u hx hu).le hle
theorem tN.tups {xs ys:List V} (h:kF xs ys):tN (.tup xs) (.tup ys):=fun O w σ v hv=>by
 cases hv with
 |tup hn hc=>
  refine .tup (by rw [hn,h.1]) fun i y u hy hu=>?_
  obtain⟨x,hx,hle⟩:=h.get i y hy
  exact(hc i x u hx hu).le hle
theorem tN.rows {α:Type} {es:Nat} {t t':Bool} {l:List α} {f g:α→List V} (ht:t=true→t'=true)(h:∀x∈l,kF (f x) (g x)):tN (.lst es t' (l.map f)) (.lst es t (l.map g)):=by
 refine .lst (.inl rfl) ht (by simp) fun i x y hx hy=>?_
 rw [List.getElem?_map,Option.map_eq_some_iff] at hx hy
 obtain⟨a,ha,rfl⟩:=hx
 obtain⟨b,hb,rfl⟩:=hy
 rw [ha] at hb
 obtain rfl:=Option.some.inj hb
 exact h a (zF ha)
theorem tN.weak {es:Nat} {t:Bool} {xs:List (List V)} :tN (.lst es t xs) (.lst es false xs):=
 .lst (.inl rfl) (by simp) rfl fun i x y hx hy=>by rw [hx] at hy;obtain rfl:=Option.some.inj hy;exact kF.refl x
theorem tN.nils {es es':Nat} {t:Bool} :tN (.lst es' t []) (.lst es false []):=.lst (.inr rfl) (by simp) rfl (by simp)
def LeO:Obj→Obj→Prop
 | .row es xs,.row es' ys=>es'=es∧xs.length=ys.length∧∀(i:Nat) (x y:List V),xs[i]? =some x→ys[i]? =some y→kF x y
 | .box xs,.box ys=>kF xs ys
 | .mp xs,.mp ys=>ys=xs
 | .bb xs,.bb ys=>ys=xs
 |_,_=>False
def lO:List Obj→List Obj→Prop
 | [],[]=>True
 |x::xs,y::ys=>LeO x y∧lO xs ys
 |_,_=>False
theorem LeO.refl(o:Obj):LeO o o:=by
 cases o with
 |row es xs=>exact⟨rfl,rfl,fun i x y hx hy=>by rw [hx] at hy;obtain rfl:=Option.some.inj hy;exact kF.refl x⟩
 |box xs=>exact kF.refl xs
 |mp xs=>rfl
 |bb l=>rfl
theorem lO.refl:∀l:List Obj,lO l l
 | []=>trivial
 |o::r=>⟨LeO.refl o,lO.refl r⟩
theorem lO.get:∀ {xs ys:List Obj},lO xs ys→xs.length=ys.length∧∀(i:Nat) (y:Obj),ys[i]? =some y→∃x,xs[i]? =some x∧LeO x y
 | [],[],_=>⟨rfl,by simp⟩
 | [],_::_,h=>h.elim
 |_::_,[],h=>h.elim
 |x::xs,y::ys,h=>by
  obtain⟨h1,h2⟩:=lO.get h.2
  refine⟨by simp [h1],fun i z hz=>?_⟩
  cases i with
  |zero=>simp only [zH,Option.some.injEq] at hz;subst hz;exact⟨x,rfl,h.1⟩
  |succ i=>exact h2 i z (by simpa using hz)
theorem jV.le {O:Nat→Prop} {w:World} {σ:Sg} {loc:Option (Option Nat×Nat×Nat)} {x y:Obj} (h:jV O w σ loc x)(hle:LeO x y):jV O w σ loc y:=by
 cases x with
 |row es xs=>
  cases y with
  |box _=>exact hle.elim
  |mp _=>exact hle.elim
  |bb _=>exact hle.elim
  |row es' ys=>
   obtain⟨rfl,hl,hxy⟩:=hle
   obtain⟨h1,h2⟩:=h
   have get:∀(i:Nat) (y:List V),ys[i]? =some y→∃x,xs[i]? =some x∧kF x y:=fun i y hy=>by
    obtain⟨hi,-⟩:=List.getElem?_eq_some_iff.1 hy
    have :=zD (l:=xs) (i:=i) (by omega)
    exact⟨_,this,hxy i _ y this hy⟩
   refine⟨fun y hy=>?_,?_⟩
   ·obtain⟨i,hi⟩:=zJ hy
    obtain⟨x,hx,hle⟩:=get i y hi
    rw [←hle.1];exact h1 x (zF hx)
   ·rcases loc with _ | ⟨_ |b,es',cap⟩
    ·exact h2
    ·obtain⟨e1,e2,e3⟩:=h2
     subst e3
     exact⟨e1,e2,List.length_eq_zero_iff.1 (by rw [←hl];rfl)⟩
    ·obtain⟨e1,e2,arr,ty,e3,e4,e5⟩:=h2
     refine⟨e1,by rw [←hl];exact e2,arr,ty,e3,e4,fun i y c v hy hv=>?_⟩
     obtain⟨x,hx,hle⟩:=get i y hy
     obtain⟨hc,-⟩:=List.getElem?_eq_some_iff.1 hv
     have hu:=zD (l:=x) (i:=c) (by rw [hle.1];exact hc)
     obtain⟨u,q1,q2,q3⟩:=e5 i x c _ hx hu
     exact⟨u,q1,q2,q3.le (hle.2 c _ v hu hv)⟩
 |box xs=>
  cases y with
  |row _ _=>exact hle.elim
  |mp _=>exact hle.elim
  |bb _=>exact hle.elim
  |box ys=>
   obtain⟨b,e1,arr,ty,e2,e3,e4⟩:=h
   refine⟨b,by rw [e1,hle.1],arr,ty,e2,by rw [e3,hle.1],fun c v hv=>?_⟩
   obtain⟨hc,-⟩:=List.getElem?_eq_some_iff.1 hv
   have hu:=zD (l:=xs) (i:=c) (by rw [hle.1];exact hc)
   obtain⟨u,q1,q2,q3⟩:=e4 c _ hu
   exact⟨u,q1,q2,q3.le (hle.2 c _ v hu hv)⟩
 |mp xs=>
  cases y with
  |row _ _=>exact hle.elim
  |box _=>exact hle.elim
  |bb _=>exact hle.elim
  |mp ys=>obtain rfl:=hle;exact h
 |bb xs=>
  cases y with
  |row _ _=>exact hle.elim
  |box _=>exact hle.elim
  |mp _=>exact hle.elim
  |bb ys=>obtain rfl:=hle;exact h
theorem aQ.le {P:Program} {f:FuncId} {ob0 ob1 ob1':List Obj} {args args':List V} {res res':V} (h:aQ P f ob0 args res ob1)(ha:kF args' args)(hr:tN res res')(ho:lO ob1 ob1'):aQ P f ob0 args' res' ob1':=by
 intro U σ w cargs hR hl hargs
 obtain⟨hol,hog⟩:=ho.get
 have get:∀(j:Nat) (o:Obj),(aL 0 ob1').get j=some o→∃o',(aL 0 ob1).get j=some o'∧LeO o' o:=by
  intro j o hj
  rw [cQ,if_pos (zM _),zL] at hj
  obtain⟨x,hx,hle⟩:=hog j o hj
  exact⟨x,by rw [cQ,if_pos (zM _),zL];exact hx,hle⟩
 refine(h U σ w cargs hR (by rw [hl,ha.1]) fun i v c hv hc=>?_).mono fun e w' ⟨cv,σ',he,hR',hv,g⟩=>?_
 ·obtain⟨hi,-⟩:=List.getElem?_eq_some_iff.1 hv
  have hu:=zD (l:=args') (i:=i) (by rw [ha.1];exact hi)
  exact(hargs i _ c hu hc).le (ha.2 i _ v hu hv)
 ·have own:∀b,gB σ' (aL 0 ob1') b→gB σ' (aL 0 ob1) b:=fun b ⟨k,o,es,cap,h1,h2⟩=>by
   obtain⟨o',h3,-⟩:=get k o h1
   exact⟨k,o',es,cap,h3,h2⟩
  have ownU:∀b,Own U σ' (aL 0 ob1') b→Own U σ' (aL 0 ob1) b:=fun b h=>h.imp id (own b)
  refine⟨cv,σ',he,⟨fun k o hk=>?_,fun k k' o o' b es cap es' cap' h1 h2=>?_,fun k hk=>?_,fun b hb=>hR'.disj b (own b hb),hR'.ulim,hR'.gl.less ownU⟩,(hv.le hr).mono (cM.refl _ _) (fun b _ h=>ownU b h) fun _ _=>rfl,⟨g.keep,fun b hb hO=>g.own b hb (own b hO),g.sg,by rw [←hol];exact g.nx⟩⟩
  ·obtain⟨o',h1,h2⟩:=get k o hk
   exact(((hR'.obj k o' h1).less ownU).le h2)
  ·obtain⟨p,h3,-⟩:=get k o h1
   obtain⟨p',h4,-⟩:=get k' o' h2
   exact hR'.inj k k' p p' b es cap es' cap' h3 h4
  ·refine⟨?_,(hR'.fresh k (by omega)).2⟩
   rw [cQ,if_pos (zM _),zL,List.getElem?_eq_none (by omega)]
end Go.Sk
