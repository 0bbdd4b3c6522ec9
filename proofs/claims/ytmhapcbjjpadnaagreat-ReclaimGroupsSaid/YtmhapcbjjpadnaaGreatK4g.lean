/- Caches. -/
import Derived.Test.YtmhapcbjjpadnaaGreatK3g
import Derived.Deep.LoopGhost
import Derived.Orders
set_option linter.all false
open Array renaming getD_eq_getD_getElem?→zK,getElem?_map→zS
open Bool renaming and_eq_true→zF,or_eq_true→zN
open List renaming mem_cons_of_mem→zD,getElem?_cons_zero→zE,mem_of_getElem?→zG,getElem?_eq_getElem→zL,getElem?_eq_none→zO,mem_append_right→zP,mem_singleton→zR,getElem?_map→zT
open Nat renaming le_of_ble_eq_true→zC,ne_of_beq_eq_false→zH,eq_of_beq_eq_true→zI,le_refl→zJ,sub_zero→zM,zero_le→zQ
open Option renaming map_eq_some_iff→zA
namespace Go.Sk
open Go Go.RowKit
variable [gI]
class pS where
 ds:List Deferred
structure SV where
 ch:List (Nat×Bool)
 gc:Bool
 v:V
abbrev aY:=List (Nat×SV)
def eC:aY->Nat->Option SV
 | [],_=>none
 | (j,s)::r,d=>if d=j then some s else eC r d
def aI8:aY->Nat->aY
 | [],_=> []
 | (j,s)::r,d=>if d=j then aI8 r d else(j,s)::aI8 r d
def aEO:aY->Nat->SV->aY
 | [],d,s=> [(d,s)]
 | (j,q)::r,d,s=>if d=j then(d,s)::aI8 r d else(j,q)::aEO r d s
def sV(l:aY):Option Nat->SV->aY
 |some d,s=>aEO l d s
 |none,_=>l
theorem gQ:∀ {l:aY} {d:Nat} {s:SV},eC l d=some s->(d,s)∈l
 | [],_,_,h=>by simp [eC] at h
 | (j,q)::r,d,s,h=>by
   simp only [eC] at h;split at h
   ·rename_i e;obtain rfl:=zsi h;subst e;simp
   ·exact zD _ (gQ h)
theorem aGV:∀ {l:aY} {d:Nat} {p:Nat×SV},p∈aI8 l d->p.1≠d/\p∈l
 | [],_,_,h=>by simp [aI8] at h
 | (j,q)::r,d,p,h=>by
   simp only [aI8] at h;split at h
   ·have :=aGV h;exact⟨this.1,zD _ this.2⟩
   ·rename_i e;rcases List.mem_cons.1 h with rfl |h
    ·exact⟨Ne.symm e,by simp⟩
    ·have :=aGV h;exact⟨this.1,zD _ this.2⟩
theorem qL:∀ {l:aY} {d:Nat} {s:SV} {p:Nat×SV},p∈aEO l d s->p=(d,s)\/(p.1≠d/\p∈l)
 | [],d,s,p,h=>by simp only [aEO,zR] at h;exact .inl h
 | (j,q)::r,d,s,p,h=>by
   simp only [aEO] at h;split at h
   ·rcases List.mem_cons.1 h with rfl |h
    ·exact .inl rfl
    ·have :=aGV h;exact .inr ⟨this.1,zD _ this.2⟩
   ·rename_i e;rcases List.mem_cons.1 h with rfl |h
    ·exact .inr ⟨Ne.symm e,by simp⟩
    ·rcases qL h with h |h
     ·exact .inl h
     ·exact .inr ⟨h.1,zD _ h.2⟩
structure St where
 sl:aY
 so:aD
 nx:Nat
def aY0(g:Nat×Bool):List (Nat×Bool)->Bool
 | []=>false
 |h::t=>(g.1==h.1&&g.2==h.2)||aY0 g t
theorem aNE {g:Nat×Bool} :∀ {l:List (Nat×Bool)},aY0 g l=true->g∈l
 | [],h=>by simp [aY0] at h
 |a::t,h=>by
  simp only [aY0,zN,zF,zbe] at h;rcases h with ⟨h1,h2⟩|h
  ·have :g=a:=Prod.ext h1 h2;simp [this]
  ·exact zD _ (aNE h)
def bP(sl:aY)(ch:List (Nat×Bool)):A->V
 | .c v=>v
 | .t n=>match eC sl n with
   |some s=>match s.ch with
    | []=>s.v
    |g::_=>if aY0 g ch then s.v else .any
   |none=>.any
def guardOf(sl:aY):Option (Nat×Bool)->Option (List (Nat×Bool)×Bool)
 |none=>some ([],true)
 |some (gd,b)=>match eC sl gd with
  |some s=>match s.v with
   | .bool x=>some ((gd,b)::s.ch,match s.ch with
     | []=>(if b then x else !x)
     |_::_=>s.gc&&(if b then x else !x))
   | .any=>match s.ch,s.gc with
     |_::_,false=>some ((gd,b)::s.ch,false)
     |_,_=>none
   |_=>none
  |none=>none
structure iQ where
 d:Option Nat
 g:Option (Nat×Bool)
 i:I
def sD(P:Program)(f:FuncId)(args:List V)(S:aD)(gc:Bool)(K:V->Prop):Prop:= ∃res,(gc=true->(∀v∈args,oS S v)/\aM P f [] (args.map (pur S)) res [])/\(args.all aJC=true\/aD8 res=true)/\K res
inductive mP(A B C D:Prop):Prop where
 |inl (h:A)
 |inr (h:B)
 |frz (h:C)
 |mov (h:D)
def jE(P:Program)(f:FuncId):Prop:=∃fn,P.funcs[f]? =some fn∧fn.body.isSome=true∧(fn.name== "runtime.NumGoroutine")=false
def mJ(ssl:aY)(sso:aD)(snx:Nat)(ch:List (Nat×Bool))(gc:Bool)(i:I)(K:V->aD->Nat->Prop):Prop:=
 match ch with
 | []=>oZ sso snx i (bP ssl []) K
 |g::r=>(gc=true->oZ sso snx i (bP ssl (g::r)) K)/\(gc=false->K .any sso snx)
def dJ(P:Program)(ssl:aY)(sso:aD)(snx:Nat)(ch:List (Nat×Bool))(gc:Bool)(i:I)(K:V->aD->Nat->Prop):Prop:=
 match i with
 | .pick (.t tc) a b=>match bP ssl ch (.t tc) with
   | .bool x=>match bP ssl ((tc,true)::ch) a,bP ssl ((tc,false)::ch) b with
     | .bool p,.bool q=>K (.bool (bif x then p else q)) sso snx
     |u,v=>match x with
      |true=>K u sso snx
      |false=>K v sso snx
   |_=>gc=false/\K .any sso snx
 | .build z ps=>match aDJ z (ps.map λp=>(p.1,p.2.1,bP ssl ch p.2.2)) with
   |some cs=>z.all pO=true/\K (.agg cs) sso snx
   |none=>False
 | .call f xs=>mP (sD P f (xs.map (bP ssl ch)) sso gc λv=>K v sso snx) ((gc=true->pR P f (xs.map (bP ssl ch)) sso snx K)/\(gc=false->K .any sso snx)) ((gc=true->rN P f (xs.map (bP ssl ch)) sso snx K)/\(gc=false->K .any sso snx)) ((gc=true->rW P f (xs.map (bP ssl ch)) sso snx K)/\(gc=false->K .any sso snx))
 | .vcall x xs=>match bP ssl ch x with
   | .fn f caps=>jE P f/\mP (sD P f (xs.map (bP ssl ch)++caps) sso gc λv=>K v sso snx) ((gc=true->pR P f (xs.map (bP ssl ch)++caps) sso snx K)/\(gc=false->K .any sso snx)) ((gc=true->rN P f (xs.map (bP ssl ch)++caps) sso snx K)/\(gc=false->K .any sso snx)) ((gc=true->rW P f (xs.map (bP ssl ch)++caps) sso snx K)/\(gc=false->K .any sso snx))
   |_=>gc=false/\K .any sso snx
 | .clr es z x=>mJ ssl sso snx ch gc (.clr es z x) K
 | .alloc z=>mJ ssl sso snx ch gc (.alloc z) K
 | .box x=>mJ ssl sso snx ch gc (.box x) K
 | .st m x y=>mJ ssl sso snx ch gc (.st m x y) K
 | .mkmap ks=>mJ ssl sso snx ch gc (.mkmap ks) K
 | .s2b x=>mJ ssl sso snx ch gc (.s2b x) K
 | .aslc n x h=>mJ ssl sso snx ch gc (.aslc n x h) K
 | .cpys x y=>mJ ssl sso snx ch gc (.cpys x y) K
 | .mput x i y=>mJ ssl sso snx ch gc (.mput x i y) K
 | .mputp x i y=>mJ ssl sso snx ch gc (.mputp x i y) K
 | .bslice es z m ps=>mJ ssl sso snx ch gc (.bslice es z m ps) K
 | .mk es by_ z l c=>mJ ssl sso snx ch gc (.mk es by_ z l c) K
 | .app es by_ x y=>mJ ssl sso snx ch gc (.app es by_ x y) K
 | .cpy es x y=>mJ ssl sso snx ch gc (.cpy es x y) K
 |i=>gL sso i (bP ssl ch) gc λv=>K v sso snx
def nP(P:Program)(st:St)(ch:List (Nat×Bool))(gc:Bool)(i:I)(K:V->aD->Nat->Prop):Prop:=dJ P st.sl st.so st.nx ch gc i K
def rZ(P:Program):List iQ->St->(St->Prop)->Prop
 | [],st,K=>K st
 | ⟨d,g,i⟩::r,st,K=>match guardOf st.sl g with
   |some (ch,gc)=>nP P st ch gc i λv S n=>rZ P r ⟨sV st.sl d ⟨ch,gc,v⟩,S,n⟩ K
   |none=>False
def aLI(P:Program):Op->Option I
 | .call { callee:=.value (.func f),args,.. } =>match P.funcs[f]? with
   |some fn=>if fn.body.isSome=true∧(fn.name== "runtime.NumGoroutine")=false then(args.toList.mapM bI).map (.call f) else none
   |none=>none
 | .call { callee:=.value (.tmp t),args,.. } =>(args.toList.mapM bI).map (.vcall (.t t))
 |_=>none
def aHH(P:Program)(o:Op):Option I:=
 match aLI P o with
 |some i=>some i
 |none=>some .bad
def aVN(P:Program)(o:Op):Option I:=
 match aHI P o with
 |some i=>some i
 |none=>match bK8 P o with
  |some (z,ps)=>some (.build z ps)
  |none=>match bAD P o with
   |some i=>some i
   |none=>aHH P o
def aVM(ops:Array Oper)(N:Nat):Option (Nat×Bool)->Option (Option (Nat×Bool))
 |none=>some none
 |some (j,b)=>match(ops[j]?).bind (·.dst) with
  |some d=>if d<N then some (some (d,b)) else none
  |none=>none
def aVL(N:Nat):Option Nat->Option (Option Nat)
 |none=>some none
 |some d=>if d<N then some (some d) else none
def cO(P:Program)(ops:Array Oper)(N:Nat):List Oper->Option (List iQ)
 | []=>some []
 |o::r=>match aVN P o.op,aVM ops N o.guard,aVL N o.dst,cO P ops N r with
  |some i,some g,some d,some l=>some (⟨d,g,i⟩::l)
  |_,_,_,_=>none
def kG:List Nat->List iQ->Bool
 |_,[]=>true
 |G,i::r=>(match i.d with |some d=> !G.contains d |none=>true)&&(match i.g with |some (gd,_)=>(i.d != some gd)&&kG (gd::G) r |none=>kG G r)
def holds(tmps:Array Value)(g:Nat×Bool):Prop:=tmps.getD g.1 undef=.bool g.2
def vV(O:Nat->Prop)(w:World)(σ:Sg)(tmps:Array Value)(s:SV)(cv:Value):Prop:=
 match s.ch with
 | []=>VR O w σ s.v cv
 |g::r=>(holds tmps g->s.gc=true)/\(s.gc=true->(∀h∈g::r,holds tmps h)/\VR O w σ s.v cv)/\(s.gc=false->cv=undef)
structure bH [pS](U:Nat->Prop)(N:Nat)(σ:Sg)(st:St)(act:Act)(w:World):Prop where
 rel:aU U σ st.so w st.nx
 sz:act.tmps.size=N
 df:act.defers=pS.ds
 sl:∀d s,(d,s)∈st.sl->vV (Own U σ st.so) w σ act.tmps s (act.tmps.getD d undef)
def GIn(sl:aY)(G:List Nat):Prop:=∀d s,(d,s)∈sl->∀g∈s.ch,g.1∈G
section
variable {P:Program} {U:Nat->Prop} {N:Nat} {σ:Sg} {st:St} {act:Act} {w:World}
theorem gW [pS](h:bH U N σ st act w) {ch:List (Nat×Bool)} (j:∀g∈ch,holds act.tmps g) {x:Operand} {a:A} (e:bI x=some a):VR (Own U σ st.so) w σ (bP st.sl ch a) (act.eval x):=by
 cases x with
 |tmp t=>
  simp only [bI,zse] at e;subst e;simp only [bP,Act.eval];split
  ·rename_i s z;have :=h.sl t s (gQ z);unfold vV at this;split
   ·rename_i hc;rw [hc] at this;exact this
   ·rename_i g r hc;rw [hc] at this;split
    ·rename_i hg;exact(this.2.1 (this.1 (j g (aNE hg)))).2
    ·exact .any _
  ·exact .any _
 |const v=> simp only [bI,zA] at e;obtain⟨y,B,rfl⟩:=e;exact aR5 B _ _ _
 |func f=> simp only [bI,zse] at e;subst e;exact .fn rfl (by simp)
 |global g=> simp only [bI,zA] at e;obtain⟨m,hg,rfl⟩:=e;exact(h.rel.gl g m hg).lift σ
theorem aUD {op:BinOp} {k:IntKind} {a b:Int} {e:Bool} {K:V->Prop} (h:aEG op k a b e K):∃v,K v:=by
 cases op <;> simp only [aEG] at h <;> first |exact⟨_,h⟩|exact⟨_,h.2⟩
theorem bA1 {S:aD} {i:I} {e:A->V} {f:Bool} {K:V->Prop} (h:gL S i e f K):∃v,K v:=by
 unfold gL at h
 repeat' (first |split at h)
 all_goals first
  |exact h.elim
  |exact aUD h.2
  | (obtain⟨r,h1,-⟩:=tN h;exact⟨_,h1⟩)
  |exact⟨_,h⟩
  |exact⟨_,h.2⟩
  |exact⟨_,h.2.2⟩
theorem mF {a:Act} {d t:Nat} {v:Value} (e:d<a.tmps.size):(a.put (some d) v).tmps.getD t undef=if t=d then v else a.tmps.getD t undef:=by
 simp only [Act.put,zK]
 by_cases h:t=d
 ·subst h;rw [if_pos rfl,Array.getElem?_setIfInBounds_self_of_lt e];rfl
 ·rw [if_neg h,Array.getElem?_setIfInBounds_ne (Ne.symm h)]
theorem bH.put [pS](h:bH U N σ st act w) {G:List Nat} (hG:GIn st.sl G) {σ':Sg} {S':aD} {w':World} {n':Nat} (g:bM σ st.so w st.nx σ' S' w' n')(hR':aU U σ' S' w' n')
 {d:Option Nat} (hd:∀d',d=some d'->d'<N/\d'∉G) {s:SV} {cv:Value} (hs:∀tmps',(∀g,g.1∈G->(holds tmps' g↔holds act.tmps g))->vV (Own U σ' S') w' σ' tmps' s cv):
 bH U N σ' ⟨sV st.sl d s,S',n'⟩ (act.put d cv) w' where
 rel:=hR'
 sz:=by cases d <;> simp [Act.put,h.sz]
 df:=by cases d <;> simp [Act.put,h.df]
 sl:=λt q hq=>by
  have hkeep:∀g:Nat×Bool,g.1∈G->(holds (act.put d cv).tmps g↔holds act.tmps g):=λg hg=>by
   cases d with
   |none=>exact Iff.rfl
   |some d=> obtain⟨h1,h2⟩:=hd d rfl;unfold holds;rw [mF (by rw [h.sz];exact h1),if_neg (λ(e:g.1=d)=>h2 (e▸hg))]
  have old:(t,q)∈st.sl->(∀d',d=some d'->t≠d')->vV (Own U σ' S') w' σ' (act.put d cv).tmps q ((act.put d cv).tmps.getD t undef):=λhm hne=>by
   have hold:=h.sl t q hm
   have hval:(act.put d cv).tmps.getD t undef=act.tmps.getD t undef:=by
    cases d with
    |none=>rfl
    |some d=>rw [mF (by rw [h.sz];exact(hd d rfl).1),if_neg (hne d rfl)]
   rw [hval];unfold vV at hold⊢;have hgq:=hG t q hm;split
   ·rename_i hc;rw [hc] at hold;exact hold.grow g
   ·rename_i gg r hc;rw [hc] at hold hgq;refine⟨λhh=>hold.1 ((hkeep gg (hgq gg (by simp))).1 hh),λhh=>⟨λx hx=>(hkeep x (hgq x hx)).2 ((hold.2.1 hh).1 x hx),(hold.2.1 hh).2.grow g⟩,hold.2.2⟩
  cases d with
  |none=>exact old hq λd' hd'=>by cases hd'
  |some d=>
   rcases qL hq with hq | ⟨hne,hm⟩
   ·obtain⟨rfl,rfl⟩:=Prod.mk.inj hq;rw [mF (by rw [h.sz];exact(hd _ rfl).1),if_pos rfl];exact hs _ hkeep
   ·exact old hm λd' hd'=>by obtain rfl:=zsi hd';exact hne
theorem GIn.put {sl:aY} {G:List Nat} (f:GIn sl G) {d:Option Nat} {s:SV} (m:∀g∈s.ch,g.1∈G):GIn (sV sl d s) G:=by
 intro t q e
 cases d with
 |none=>exact f t q e
 |some d=>
  rcases qL e with e | ⟨-,j⟩
  ·obtain⟨rfl,rfl⟩:=Prod.mk.inj e;exact m
  ·exact f t q j
theorem sH {ops:Array Oper} {o:Oper} {g:Option (Nat×Bool)} (hg:aVM ops N o.guard=some g)(z:act.tmps.size=N):
 Region.wanted o (yielded ops act.tmps)=true↔∀x,g=some x->holds act.tmps x:=by
 unfold Region.wanted
 cases B:o.guard with
 |none=>rw [B] at hg;simp only [aVM,zse] at hg;subst hg;simp
 |some F=>
  obtain⟨j,b⟩:=F;rw [B] at hg;simp only [aVM] at hg;split at hg
  ·rename_i d E;split at hg
   ·rename_i m;simp only [zse] at hg;subst hg;have f:d<act.tmps.size:=by rw [z];exact m
    have e:act.tmps[d]? =some (act.tmps.getD d undef):=by rw [zK,Array.getElem?_eq_getElem f];rfl
    simp only [yielded,E,Option.bind_some,e,holds,zse,forall_eq'];constructor
    ·intro h;split at h
     ·rename_i C D;obtain rfl:C=b:=by simpa using h
      exact zsi D
     ·simp at h
    ·intro h;rw [h];simp
   ·cases hg
  ·cases hg
theorem aAY [pS](h:bH U N σ st act w) {g:Option (Nat×Bool)} {ch:List (Nat×Bool)} {B:Bool} (hg:guardOf st.sl g=some (ch,B)):
 (ch=[]->B=true/\g=none)/\((∀x,g=some x->holds act.tmps x)->B=true)/\(B=true->∀x∈ch,holds act.tmps x)/\(∀x,g=some x->∃r,ch=x::r):=by
 cases g with
 |none=> simp only [guardOf,zse,Prod.mk.injEq] at hg;obtain⟨rfl,rfl⟩:=hg;simp
 |some D=>
  obtain⟨z,b⟩:=D;simp only [guardOf] at hg;split at hg
  ·rename_i s E;have e:=h.sl z s (gQ E);unfold vV at e;split at hg
   ·rename_i x F;simp only [zse,Prod.mk.injEq] at hg;obtain⟨rfl,rfl⟩:=hg;rw [F] at e;refine⟨by simp,λm=>?_,λm y f=>?_,λy f=>⟨s.ch,by rw [<-zsi f]⟩⟩
    ·have h1:act.tmps.getD z undef=.bool b:=m _ rfl;split
     ·rename_i hc;rw [hc] at e;simp only at e;rw [h1] at e;cases e
      cases b <;> rfl
     ·rename_i q r hc;rw [hc] at e;simp only at e
      cases j:s.gc with
      |false=>have :=e.2.2 j;rw [h1] at this;cases this
      |true=>
       have :=(e.2.1 j).2;rw [h1] at this;cases this
       cases b <;> rfl
    ·split at m
     ·rename_i hc;rw [hc] at e f;simp only at e;simp only [zR] at f;subst f;generalize C:act.tmps.getD z undef=v at e;cases e
      unfold holds;rw [C];cases b <;> cases x <;> simp_all
     ·rename_i q r hc;rw [hc] at e f;simp only at e;simp only [zF] at m;obtain⟨k1,k2⟩:=e.2.1 m.1;rcases List.mem_cons.1 f with rfl |f
      ·generalize C:act.tmps.getD z undef=v at k2;cases k2
       unfold holds;rw [C];have :=m.2;cases b <;> cases x <;> simp_all
      ·exact k1 y f
   ·split at hg
    ·rename_i q r hc j;simp only [zse,Prod.mk.injEq] at hg;obtain⟨rfl,rfl⟩:=hg;rw [hc] at e;simp only at e;refine⟨by simp,λm=>?_,(λm=>by cases m),λy f=>⟨s.ch,by rw [<-zsi f]⟩⟩
     have h1:act.tmps.getD z undef=.bool b:=m _ rfl;have :=e.2.2 j;rw [h1] at this;cases this
    ·cases hg
   ·cases hg
  ·cases hg
theorem aVW {ρ:Operand→Value} {f:FuncId} {fn:Func} {args:Array Operand} {E:Array TypeId} (B:P.funcs[f]? =some fn)(m:fn.body.isSome=true)(z:(fn.name== "runtime.NumGoroutine")=false)
 (o:Oper) (C:o.op=.call { callee:=.value (.func f),args,argTypes:=E }) (D:ρ (.func f)=.func (.func f) #[] #[]):(execOp ρ o).run P w=.ok (.enter f (args.map ρ)) w:=by
 have e:¬fn.body=none:=λh=>by rw [h] at m;simp at m
 have j:¬fn.name= "runtime.NumGoroutine" :=fun h=>by rw [h] at z;simp at z
 simp [execOp,C,resolve,D,Deferred.ofValue,invoke,callFunc,B,j,e]
theorem aVX {ρ:Operand->Value} {f:FuncId} {t:Nat} {e:Array Value} (hc:jE P f) {args:Array Operand} {F:Array TypeId}
 (o:Oper) (D:o.op=.call { callee:=.value (.tmp t),args,argTypes:=F }) (E:ρ (.tmp t)=.func (.func f) #[] e):(execOp ρ o).run P w=.ok (.enter f (args.map ρ++e)) w:=by
 obtain⟨fn,C,z,B⟩:=hc;have j:¬fn.body=none:=λh=>by rw [h] at z;simp at z
 have m:¬fn.name= "runtime.NumGoroutine" :=fun h=>by rw [h] at B;simp at B
 simp [execOp,D,resolve,E,Deferred.ofValue,invoke,callFunc,C,m,j]
theorem aCO {l:List Operand} {xs:List A} (h:l.mapM bI=some xs):xs.length=l.length/\∀(i:Nat) x a,l[i]? =some x->xs[i]? =some a->bI x=some a:=by
 induction l generalizing xs with
 |nil=>simp only [List.mapM_nil] at h;obtain rfl:=zsi h;simp
 |cons y r z=>
  rw [List.mapM_cons] at h
  cases m:bI y with
  |none=>rw [m] at h;cases h
  |some a=>
   rw [m] at h
   cases f:r.mapM bI with
   |none=>rw [f] at h;cases h
   |some B=>
    rw [f] at h;obtain rfl:=zsi h;obtain⟨h1,h2⟩:=z f;refine⟨by simp [h1],λi x b j e=>?_⟩
    cases i with
    |zero=>simp only [zE,zse] at j e;subst j e;exact m
    |succ i=>exact h2 i x b (by simpa using j) (by simpa using e)
theorem aV0 {ch:List (Nat×Bool)} {j:Bool} {i:I} {K:V->aD->Nat->Prop} (h:nP P st ch j i K)(hc:ch≠ [])(e:j=false):∃v,K v st.so st.nx:=by
 unfold nP dJ at h;split at h
 ·split at h
  ·split at h
   ·exact⟨_,h⟩
   ·split at h
    ·exact⟨_,h⟩
    ·exact⟨_,h⟩
  ·exact⟨_,h.2⟩
 ·split at h
  ·exact⟨_,h.2⟩
  ·cases h
 ·rcases h with ⟨f,-,-,h⟩|h |h |h
  ·exact⟨_,h⟩
  ·exact⟨_,h.2 e⟩
  ·exact⟨_,h.2 e⟩
  ·exact⟨_,h.2 e⟩
 ·split at h
  ·rcases h.2 with ⟨f,-,-,h⟩|h |h |h
   ·exact⟨_,h⟩
   ·exact⟨_,h.2 e⟩
   ·exact⟨_,h.2 e⟩
   ·exact⟨_,h.2 e⟩
  ·exact⟨_,h.2⟩
 all_goals first
  | (revert h;unfold mJ;cases ch with
     |nil=>exact absurd rfl hc
     |cons g r=>intro h;exact⟨_,h.2 e⟩)
  |exact bA1 h
def aYB:I->Bool
 | .mv _=>true | .un _ _=>true | .bin _ _ _=>true | .conv _ _=>true | .nilck _=>true | .faddr _ _=>true | .fget _ _ _ _=>true | .ld _ _ _=>true
 | .iaddr _ _ _=>true | .iarr _ _ _ _=>true | .aidx _ _ _=>true | .slc3 _ _ _ _ _=>true | .isnil _ _=>true | .mkfn _ _=>true | .slc _ _ _ _=>true | .len _=>true | .eqb _ _ _=>true | .eqs _ _ _ _=>true | .mx _ _=>true | .mn _ _=>true | .extr _ _=>true | .mget _ _ _ _=>true | .mgetp _ _ _ _=>true
 | .slen _=>true | .sidx _ _=>true | .ssl _ _ _=>true | .scat _ _=>true | .sqs _ _ _=>true | .b2s _=>true
 |_=>false
def bD5:I->Bool
 | .alloc _=>true | .box _=>true | .st _ _ _=>true | .bslice _ _ _ _=>true | .mk _ _ _ _ _=>true | .mkmap _=>true | .mputp _ _ _=>true | .mput _ _ _=>true | .app _ _ _ _=>true | .cpy _ _ _=>true | .clr _ _ _=>true | .s2b _=>true | .aslc _ _ _=>true | .cpys _ _=>true
 |_=>false
theorem bD2 {ch:List (Nat×Bool)} {e:Bool} {i:I} (h:aYB i=true)(K:V->aD->Nat->Prop):nP P st ch e i K=gL st.so i (bP st.sl ch) e λv=>K v st.so st.nx:=by
 cases i <;> first |rfl | (simp [aYB] at h)
theorem bD3 {ch:List (Nat×Bool)} {e:Bool} {i:I} (h:bD5 i=true)(K:V->aD->Nat->Prop):nP P st ch e i K=mJ st.sl st.so st.nx ch e i K:=by
 cases i <;> first |rfl | (simp [bD5] at h)
theorem aQV {o:Op} {i:I} (h:aOO P o=some i):aYB i=true\/∃c a b c' a' b',o=.pick c a b/\i=.pick c' a' b'/\bI c=some c'/\bI a=some a'/\bI b=some b':=by
 unfold aOO at h;split at h
 case h_3=>
  split at h
  ·rename_i h1 h2 h3;obtain rfl:=zsi h;exact .inr ⟨_,_,_,_,_,_,rfl,rfl,h1,h2,h3⟩
  ·cases h
 all_goals
  left
  first
   | (simp only [zA] at h;obtain⟨a,h1,rfl⟩:=h;rfl)
   |skip
 all_goals
  repeat' (first | (cases h;done)| (obtain rfl:=zsi h;rfl)| (simp only [zA] at h;obtain⟨a,h1,rfl⟩:=h;rfl)|split at h)
theorem aE0 {o:Op} {i:I} (h:aHI P o=some i):aYB i=true\/∃c a b j e f,o=.pick c a b/\i=.pick j e f/\bI c=some j/\bI a=some e/\bI b=some f:=by
 unfold aHI at h;split at h
 ·rename_i h1;obtain rfl:=zsi h;exact aQV h1
 ·left;unfold bE8 at h;split at h
  all_goals
   repeat' (first | (cases h;done)| (obtain rfl:=zsi h;rfl)| (simp only [zA] at h;obtain⟨a,h1,rfl⟩:=h;rfl)|split at h)
theorem aJM {o:Op} {i:I} (h:bAD P o=some i):bD5 i=true:=by
 unfold bAD at h;split at h
 all_goals
  repeat' (first | (cases h;done)| (obtain rfl:=zsi h;rfl)| (simp only [zA] at h;obtain⟨a,h1,rfl⟩:=h;rfl)|split at h)
theorem bKH {S:aD} {n:Nat} {i:I} {e:A->V} {K:V->aD->Nat->Prop} (h:oZ S n i e K):oZ S n i e λv j f=>n<=f/\K v j f:=by
 revert h;unfold oZ
 repeat' split
 all_goals intro h
 all_goals first
  |exact h.elim
  |exact⟨by omega,h⟩
  |exact⟨h.1,by omega,h.2⟩
  |exact⟨h.1,h.2.1,by omega,h.2.2⟩
  |exact⟨h.1,h.2.1,h.2.2.1,by omega,h.2.2.2⟩
  |exact⟨h.1,h.2.1,h.2.2.1,h.2.2.2.1,by omega,h.2.2.2.2⟩
  |exact⟨h.1,h.2.1,h.2.2.1,h.2.2.2.1,h.2.2.2.2.1,by omega,h.2.2.2.2.2⟩
  |exact⟨h.1,h.2.1,h.2.2.1,h.2.2.2.1,h.2.2.2.2.1,h.2.2.2.2.2.1,by omega,h.2.2.2.2.2.2⟩
  | (obtain⟨h1,h2,m⟩:=h
     refine⟨h1,h2,?_⟩;revert m
     repeat' split
     all_goals intro h
     all_goals first
      |exact h.elim
      |exact⟨h.1,h.2.1,by omega,h.2.2⟩
      |exact⟨h.1,h.2.1,h.2.2.1,h.2.2.2.1,h.2.2.2.2.1,by omega,h.2.2.2.2.2⟩)
theorem aB2 [pS](h:bH U N σ st act w) {m:Nat} (hmn:m<=st.nx)(hfree:∀i,i<16->st.so.get (m+i)=none/\σ (m+i)=none) {ops:Array Oper} {o:Oper} {i:I} {g:Option (Nat×Bool)} {d:Option Nat} (hi:aVN P o.op=some i)(hg:aVM ops N o.guard=some g)(hd:aVL N o.dst=some d)
 {ch:List (Nat×Bool)} {gc:Bool} (hgu:guardOf st.sl g=some (ch,gc)) {G:List Nat} (hG:GIn st.sl G) (hdG:∀d',d=some d'->d'∉G) (hchG:∀x∈ch,x.1∈G)
 {KF:V->aD->Nat->Prop} (hK:nP P ⟨st.sl,st.so,m⟩ ch gc i KF) {next:Act->World->Prop} {Q:Exit->Act->World->Prop}
 (hnext:∀σ' v S' n1 cv w',KF v S' n1->m<=n1->bH U N σ' ⟨sV st.sl d ⟨ch,gc,v⟩,S',max st.nx n1⟩ (act.put d cv) w'->bM σ st.so w st.nx σ' S' w' (max st.nx n1)->GIn (sV st.sl d ⟨ch,gc,v⟩) G->(∀k,¬(m<=k/\k<m+16)->σ' k=σ k)->next (act.put d cv) w'):
 if Region.wanted o (yielded ops act.tmps) then o.wp P act w next Q else next (act.put o.dst undef) w:=by
 obtain⟨c1,c2,c3,c4⟩:=aAY h hgu
 have hdd:o.dst=d/\∀d',d=some d'->d'<N:=by
  unfold aVL at hd;split at hd
  ·rename_i h0;obtain rfl:=zsi hd;exact⟨h0,λ_ h=>by cases h⟩
  ·rename_i d0 h0;split at hd
   ·rename_i hlt;obtain rfl:=zsi hd;exact⟨h0,λd' hd'=>by obtain rfl:=zsi hd';exact hlt⟩
   ·cases hd
 obtain⟨hdst,hdN⟩:=hdd;have hdNG:∀d',d=some d'->d'<N/\d'∉G:=λd' h=>⟨hdN d' h,hdG d' h⟩;have hch':∀(s:SV),s.ch=ch->∀g∈s.ch,g.1∈G:=λs hs g hg=>hchG g (hs▸hg);rw [hdst]
 by_cases hw:Region.wanted o (yielded ops act.tmps)=true
 ·rw [if_pos hw];have hgc:gc=true:=c2 ((sH hg h.sz).1 hw);subst hgc;have hold:=c3 rfl;have hall:∀x a,bI x=some a->VR (Own U σ st.so) w σ (bP st.sl ch a) (act.eval x):=λx a hx=>gW h hold hx
  have fin:∀(v:V) (cv:Value) (σ':Sg) (S':aD) (w':World) (n':Nat),KF v S' n'->m<=n'->(∀k,¬(m<=k/\k<m+16)->σ' k=σ k)->VR (Own U σ' S') w' σ' v cv->aU U σ' S' w' (max st.nx n')->bM σ st.so w st.nx σ' S' w' (max st.nx n')->next (act.put d cv) w':=by
   intro v cv σ' S' w' n' hK hmn' hσ hv hR' g;refine hnext σ' v S' n' cv w' hK hmn' (h.put hG g hR' hdNG λtmps' ht=>?_) g (hG.put (hch' _ rfl)) hσ;unfold vV;split
   ·exact hv
   ·rename_i gg r hc;refine⟨λ_=>rfl,λ_=>⟨λx hx=>?_,hv⟩,λh=>by cases h⟩
    have hc':ch=gg::r:=hc;exact(ht x (hchG x (hc'▸hx))).2 (hold x (hc'▸hx))
  have hmx:max st.nx m=st.nx:=by omega
  have rd:iB P U σ st.so w act.eval o.op (λv=>KF v st.so m)->o.wp P act w next Q:=by rintro ⟨v,cv,hk,hv,hrun⟩;unfold Oper.wp;rw [hrun w o rfl (vL.refl w),Oper.upon_value,hdst];exact fin v cv σ st.so w m hk (zJ _) (λ_ _=>rfl) hv (by rw [hmx];exact h.rel) (by rw [hmx];exact bM.refl _ _ _ _)
  have wr:rC P U σ st.so w st.nx m act.eval o.op (λv S n=>m<=n/\KF v S n)->o.wp P act w next Q:=by
   rintro ⟨v,S',n',⟨hge,hk⟩,hrun⟩;obtain⟨nx,cv,w',σ',h1,h2,hσ,h3,h4,h5⟩:=hrun o rfl;have hσ':∀k,¬(m<=k/\k<m+16)->σ' k=σ k:=λk hk=>hσ k (by omega);unfold Oper.wp;rw [h1];rcases h2 with rfl | ⟨rfl,rfl⟩
   ·rw [Oper.upon_value,hdst];exact fin v cv σ' S' w' n' hk hge hσ' h5 h4 h3
   ·rw [Oper.upon_skip,hdst];exact fin v _ σ' S' w' n' hk hge hσ' h5 h4 h3
  unfold aVN at hi;split at hi
  ·rename_i i' hi';obtain rfl:=zsi hi;rcases aE0 hi' with hrd | ⟨c,a,b,c',a',b',ho,rfl,e1,e2,e3⟩
   ·rw [bD2 hrd] at hK;exact rd (aVJ hi' (λ_=>rfl) h.rel hall hK)
   ·refine rd ?_;simp only [nP,dJ] at hK;split at hK
    ·rename_i tc a'' b'' heq;obtain⟨rfl,rfl,rfl⟩:=I.pick.inj heq;split at hK
     ·rename_i x hx
      obtain⟨t,rfl⟩:∃t,c=.tmp t:=by
       cases c with
       |tmp t=>exact⟨t,rfl⟩
       |const v=>simp only [bI,zA] at e1;obtain⟨_,_,h⟩:=e1;cases h
       |func f=>simp [bI] at e1
       |global g=>simp only [bI,zA] at e1;obtain⟨_,_,h⟩:=e1;cases h
      obtain rfl:t=tc:=by simpa [bI] using e1
      have hcv:=hall _ _ e1;rw [hx] at hcv;generalize hvc:act.eval (.tmp t)=vc at hcv;cases hcv
      have hgx:holds act.tmps (t,x):=hvc;have run:∀(w':World) (o':Oper),o'.op=o.op->(execOp act.eval o').run P w'=.ok (.value (if x=true then act.eval a else act.eval b)) w':=by intro w' o' ho';simp [execOp,ho',ho,hvc,asBool]
      have ha:x=true->VR (Own U σ st.so) w σ (bP st.sl ((t,true)::ch) a') (act.eval a):=λhx=>gW h (ch:=(t,true)::ch) (λg hg=>by rcases List.mem_cons.1 hg with rfl |hg;exact hx▸hgx;exact hold g hg) e2
      have hb:x=false->VR (Own U σ st.so) w σ (bP st.sl ((t,false)::ch) b') (act.eval b):=λhx=>gW h (ch:=(t,false)::ch) (λg hg=>by rcases List.mem_cons.1 hg with rfl |hg;exact hx▸hgx;exact hold g hg) e3
      split at hK
      ·rename_i p q hp hq
       cases x with
       |true=> have :=ha rfl;rw [hp] at this;exact⟨_,act.eval a,hK,this,λw' o' ho' _=>by rw [run w' o' ho'];rfl⟩
       |false=> have :=hb rfl;rw [hq] at this;exact⟨_,act.eval b,hK,this,λw' o' ho' _=>by rw [run w' o' ho'];rfl⟩
      ·split at hK
       ·exact⟨_,act.eval a,hK,ha rfl,λw' o' ho' _=>by rw [run w' o' ho'];rfl⟩
       ·exact⟨_,act.eval b,hK,hb rfl,λw' o' ho' _=>by rw [run w' o' ho'];rfl⟩
     ·exact absurd hK.1 (by simp)
    all_goals first
     | (rename_i heq;cases heq;done)
     |exact(show False from hK).elim
  ·split at hi
   ·rename_i z ps hb;obtain rfl:=zsi hi;simp only [nP,dJ] at hK;split at hK
    ·rename_i cs hcs;obtain⟨hz,hK⟩:=hK;obtain⟨cv,hv,hrun⟩:=aMG (P:=P) hb hz hall hcs;exact rd ⟨_,cv,hK,hv,λw' o' ho' _=>hrun w' o' ho'⟩
    ·cases hK
   ·split at hi
    ·rename_i i' hi';obtain rfl:=zsi hi;rw [bD3 (aJM hi')] at hK;unfold mJ at hK
     have hK:oZ st.so m i' (bP st.sl ch) KF:=by
      cases ch with
      |nil=>exact hK
      |cons g r=>exact hK.1 rfl
     exact wr (bBD hi' h.rel (hfree 0 (by omega)) hmn (λx a hx=>gW h hold hx) (bKH hK))
    ·unfold aHH at hi;split at hi
     case h_2=>obtain rfl:=zsi hi;exact hK.elim
     rename_i _ ic hic;obtain rfl:=zsi hi;clear hi;have hi:=hic;unfold aLI at hi;split at hi
     ·rename_i f args ts hop;split at hi
      ·rename_i fn hfn;split at hi
       ·rename_i hb;simp only [zA] at hi;obtain⟨xs,hxs,rfl⟩:=hi;simp only [nP,dJ] at hK;obtain⟨hlen,hget⟩:=aCO hxs;have hargs:∀(i:Nat) v c,(xs.map (bP st.sl ch))[i]? =some v->(args.map act.eval)[i]? =some c->VR (Own U σ st.so) w σ v c:=λi v c hv hc=>by rw [zT,zA] at hv;obtain⟨a,ha,rfl⟩:=hv;rw [zS,zA] at hc;obtain⟨x,hx,rfl⟩:=hc;exact hall x a (hget i x a (by simpa using hx) ha)
        unfold Oper.wp;rw [aVW hfn hb.1 hb.2 o hop rfl,Oper.upon_enter];rcases hK with ⟨res,hf,hbor,hK⟩| ⟨hK,-⟩| ⟨hK,-⟩| ⟨hK,-⟩
        ·obtain⟨hok,hfc⟩:=hf rfl;refine(aDU h.rel (args:=xs.map (bP st.sl ch)) (by simp [hlen]) hargs hok hfc hbor).mono λe w' ⟨cv,he,hv,hkp⟩=>?_;subst he;rw [hdst];exact fin res cv σ st.so w' m hK (zJ _) (λ_ _=>rfl) hv (by rw [hmx];exact h.rel.of_keep hkp) (by rw [hmx];exact bM.of_keep hkp)
        ·obtain⟨L,ob0,ob1,res,hfc,hlent,hnd,hle,hle2,hK⟩:=hK trivial;refine(aEA h.rel hfree (args:=xs.map (bP st.sl ch)) (by simp [hlen]) hargs hfc hlent hnd (zC hle) (zC hle2)).mono λe w' ⟨cv,σ',he,hσ,g,r,hv⟩=>?_;subst he;rw [hdst];exact fin _ cv σ' _ w' _ hK (by omega) hσ hv r g
        ·obtain⟨Fz,res,hfc,hok,hK⟩:=hK trivial;refine(aDI h.rel (args:=xs.map (bP st.sl ch)) (by simp [hlen]) hargs hok hfc).mono λe w' ⟨cv,he,hv,hkp⟩=>?_;subst he;rw [hdst];have hR1:=(h.rel.frz Fz).of_keep hkp;have hG1:bM σ st.so w st.nx σ (jQ st.so Fz) w' st.nx:=(bM.frz Fz).trans (bM.of_keep hkp);exact fin res cv σ _ w' _ hK (by omega) (λ_ _=>rfl) hv ⟨hR1.obj,hR1.inj,λk hk=>hR1.fresh k (by omega),hR1.disj,hR1.ulim,hR1.gl⟩ ⟨hG1.keep,hG1.own,hG1.sg,by omega⟩
        ·obtain⟨L,ob0,ob1,res,hfc,hlent,hnd,hle2,hK⟩:=hK trivial;refine(aDP h.rel hfree (args:=xs.map (bP st.sl ch)) (by simp [hlen]) hargs hfc hlent hnd (zC hle2)).mono λe w' ⟨cv,σ',he,hσ,g,r,hv⟩=>?_;subst he;rw [hdst];exact fin _ cv σ' _ w' _ hK (by omega) hσ hv r g
       ·cases hi
      ·cases hi
     ·rename_i t args ts hop;simp only [zA] at hi;obtain⟨xs,hxs,rfl⟩:=hi;simp only [nP,dJ] at hK;have hfv:=hall (.tmp t) (.t t) rfl;split at hK
      ·rename_i f caps hcl0;obtain⟨hcal,hK⟩:=hK;rw [hcl0] at hfv;generalize hva:act.eval (.tmp t)=va at hfv
       cases hfv with
       | @fn _ _ _ arr hn0 hcaps=>
       obtain⟨hlen,hget⟩:=aCO hxs
       have hargs:∀(i:Nat) v c,(xs.map (bP st.sl ch)++caps)[i]? =some v->(args.map act.eval++arr)[i]? =some c->VR (Own U σ st.so) w σ v c:=λi v c hv hc=>by
        rw [List.getElem?_append,List.length_map] at hv;rw [Array.getElem?_append,Array.size_map] at hc;have hsz:xs.length=args.size:=by simpa using hlen
        split at hv
        ·rename_i hlt;rw [if_pos (by omega)] at hc;rw [zT,zA] at hv;obtain⟨a,ha,rfl⟩:=hv;rw [zS,zA] at hc;obtain⟨x,hx,rfl⟩:=hc;exact hall x a (hget i x a (by simpa using hx) ha)
        ·rename_i hlt;rw [if_neg (by omega),<-hsz] at hc;exact hcaps _ v c hv hc
       have hsz2:(args.map act.eval++arr).size=(xs.map (bP st.sl ch)++caps).length:=by
        have hsz:xs.length=args.size:=by simpa using hlen
        simp [hsz,hn0]
       unfold Oper.wp;rw [aVX hcal o hop hva,Oper.upon_enter];rcases hK with ⟨res,hf,hbor,hK⟩| ⟨hK,-⟩| ⟨hK,-⟩| ⟨hK,-⟩
       ·obtain⟨hok,hfc⟩:=hf rfl;refine(aDU h.rel (args:=xs.map (bP st.sl ch)++caps) hsz2 hargs hok hfc hbor).mono λe w' ⟨cv,he,hv,hkp⟩=>?_;subst he;rw [hdst];exact fin res cv σ st.so w' m hK (zJ _) (λ_ _=>rfl) hv (by rw [hmx];exact h.rel.of_keep hkp) (by rw [hmx];exact bM.of_keep hkp)
       ·obtain⟨L,ob0,ob1,res,hfc,hlent,hnd,hle,hle2,hK⟩:=hK trivial;refine(aEA h.rel hfree (args:=xs.map (bP st.sl ch)++caps) hsz2 hargs hfc hlent hnd (zC hle) (zC hle2)).mono λe w' ⟨cv,σ',he,hσ,g,r,hv⟩=>?_;subst he;rw [hdst];exact fin _ cv σ' _ w' _ hK (by omega) hσ hv r g
       ·obtain⟨Fz,res,hfc,hok,hK⟩:=hK trivial;refine(aDI h.rel (args:=xs.map (bP st.sl ch)++caps) hsz2 hargs hok hfc).mono λe w' ⟨cv,he,hv,hkp⟩=>?_;subst he;rw [hdst];have hR1:=(h.rel.frz Fz).of_keep hkp;have hG1:bM σ st.so w st.nx σ (jQ st.so Fz) w' st.nx:=(bM.frz Fz).trans (bM.of_keep hkp);exact fin res cv σ _ w' _ hK (by omega) (λ_ _=>rfl) hv ⟨hR1.obj,hR1.inj,λk hk=>hR1.fresh k (by omega),hR1.disj,hR1.ulim,hR1.gl⟩ ⟨hG1.keep,hG1.own,hG1.sg,by omega⟩
       ·obtain⟨L,ob0,ob1,res,hfc,hlent,hnd,hle2,hK⟩:=hK trivial;refine(aDP h.rel hfree (args:=xs.map (bP st.sl ch)++caps) hsz2 hargs hfc hlent hnd (zC hle2)).mono λe w' ⟨cv,σ',he,hσ,g,r,hv⟩=>?_;subst he;rw [hdst];exact fin _ cv σ' _ w' _ hK (by omega) hσ hv r g
      ·exact absurd hK.1 (by simp)
     ·cases hi
 ·rw [if_neg hw];have hne:ch≠ []:=λh0=>hw ((sH hg h.sz).2 λx hx=>by rw [(c1 h0).2] at hx;cases hx)
  have hgf:gc=false:=by
   cases hgc:gc with
   |false=>rfl
   |true=> refine absurd ((sH hg h.sz).2 λx hx=>?_) hw;obtain⟨r,hr⟩:=c4 x hx;exact c3 hgc x (by rw [hr];simp)
  obtain⟨v,hv⟩:=aV0 hK hne hgf;have hmx:max st.nx m=st.nx:=by omega
  refine hnext σ v _ _ undef w hv (zJ _) (h.put hG (by rw [hmx];exact bM.refl _ _ _ _) (by rw [hmx];exact h.rel) hdNG λtmps' ht=>?_) (by rw [hmx];exact bM.refl _ _ _ _) (hG.put (hch' _ rfl)) (λ_ _=>rfl);unfold vV;split
  ·rename_i hc;exact absurd hc hne
  ·rename_i gg r hc;refine⟨λhh=>?_,⟨λhg'=>absurd (show gc=true from hg') (by simp [hgf]),λ_=>rfl⟩⟩;have hc':ch=gg::r:=hc;have :=(ht gg (hchG gg (by rw [hc'];simp))).1 hh
   cases hgg:g with
   |none=> rw [hgg] at hgu;simp only [guardOf,zse,Prod.mk.injEq] at hgu;rw [<-hgu.1] at hne;exact absurd rfl hne
   |some x=> obtain⟨r',hr'⟩:=c4 x hgg;rw [hc'] at hr';obtain⟨rfl,-⟩:=List.cons.inj hr';exact c2 λy hy=>by rw [hgg] at hy;obtain rfl:=zsi hy;exact this
end
end Go.Sk
namespace Go.Sk
open Go Go.RowKit
variable [gI]
def aGA(k:Nat):List (Option Nat)->Bool
 | []=>false
 |some j::r=>Nat.beq k j||aGA k r
 |none::r=>aGA k r
theorem tQ:∀ {k:Nat} {l:List (Option Nat)},aGA k l=false->some k∉l
 |_,[],_=>by simp
 |k,some j::r,h=>by simp only [aGA,Bool.or_eq_false_iff] at h;have h1:k≠j:=zH h.1;have h2:=tQ h.2;simp [h1,h2]
 |k,none::r,h=>by simp only [aGA] at h;have h2:=tQ h;simp [h2]
def rX:List (Option Nat)->Bool
 | []=>true
 |none::r=>rX r
 |some k::r=> !aGA k r&&rX r
def vw1(S:aD)(ids:List (Option Nat))(x y:V):Prop:=
 match y with
 | .any=>True
 | .sl j off len=>match x with
   | .sl k off' len'=>ids[j]? =some (some k)/\off'=off/\len'=len
   | .slk k off' len' _=>ids[j]? =some (some k)/\off'=off/\len'=len
   | .lst _ t xs=>ids[j]? =some none/\t=true/\xs=[]/\off=0/\len=0
   |_=>False
 | .slk j off len c=>match x with
   | .slk k off' len' c'=>ids[j]? =some (some k)/\off'=off/\len'=len/\c'=c
   |_=>False
 | .ptr j i c=>match x with
   | .ptr k i' c'=>ids[j]? =some (some k)/\i'=i/\c'=c
   |_=>False
 | .mp j=>match x with
   | .mp k=>ids[j]? =some (some k)
   |_=>False
 | .lst es t xs=>match x with
   | .lst es' t' xs'=>(es'=es\/xs=[])/\(t=true->t'=true)/\xs'=xs
   | .sl k off len=>match S.get k with
     |some (.row es' xs')=>es'=es/\t=false/\off+len<=xs'.length/\(xs'.drop off).take len=xs/\aGA k ids=false
     |_=>False
   | .slk k off len c=>match S.get k with
     |some (.row es' xs')=>es'=es/\(t=true->c=len)/\off+len<=xs'.length/\(xs'.drop off).take len=xs/\aGA k ids=false
     |_=>False
   |_=>False
 | .int k m=>match x with
   | .int k' m'=>k'=k/\m'=m
   |_=>False
 | .bool b=>match x with
   | .bool b'=>b'=b
   |_=>False
 | .str s=>x=.str s
 | .nil=>x=.nil
 | .val v=>x=.val v
 | .rp es cs c=>x=.rp es cs c
 |_=>False
def aMC(p:V->V->Prop):List V->List V->Prop
 | [],[]=>True
 |x::xs,y::ys=>p x y/\aMC p xs ys
 |_,_=>False
theorem sZ {p:V->V->Prop} :∀ {xs ys:List V},aMC p xs ys->xs.length=ys.length/\∀(i:Nat) y,ys[i]? =some y->∃x,xs[i]? =some x/\p x y
 | [],[],_=>by simp
 | [],_::_,h=>h.elim
 |_::_,[],h=>h.elim
 |x::xs,y::ys,h=>by
  obtain⟨h1,h2⟩:=h;obtain⟨f,h4⟩:=sZ h2;refine⟨by simp [f],λi z e=>?_⟩
  cases i with
  |zero=>simp only [zE,zse] at e;subst e;exact⟨x,rfl,h1⟩
  |succ i=>exact h4 i z (by simpa using e)
def vw2(S:aD)(ids:List (Option Nat))(x y:V):Prop:=
 match y with
 | .agg ys=>match x with
   | .agg xs=>aMC (vw1 S ids) xs ys
   |_=>False
 | .fn g ys=>match x with
   | .fn f xs=>f=g/\aMC (vw1 S ids) xs ys
   |_=>False
 |y=>vw1 S ids x y
def vw3(S:aD)(ids:List (Option Nat))(x y:V):Prop:=
 match y with
 | .tup ys=>match x with
   | .tup xs=>aMC (vw2 S ids) xs ys
   |_=>False
 |y=>vw2 S ids x y
def bB8(S:aD)(ids:List (Option Nat))(x y:Obj):Prop:=
 match x,y with
 | .row es xs,.row es' ys=>es=es'/\xs=ys
 | .box xs,.box ys=>aMC (vw1 S ids) xs ys
 | .mp xs,.mp ys=>xs=ys
 | .bb xs,.bb ys=>xs=ys
 | .box xs,.row es rows=>es=xs.length/\rows=[xs]/\xs.all cI=true
 |_,_=>False
def oY(S:aD)(ids:List (Option Nat)):List (Option Nat)->List Obj->Prop
 | [],[]=>True
 |some k::r,o::os=>(match S.get k with |some p=>bB8 S ids p o |none=>False)/\oY S ids r os
 |none::r,o::os=>(match o with | .row _ xs=>xs=[] |_=>False)/\oY S ids r os
 |_,_=>False
def aCU:List (Option Nat)->Prop
 | []=>True
 |none::r=>aCU r
 |some k::r=>some k∉r/\aCU r
theorem nW:∀ {l:List (Option Nat)},rX l=true->aCU l
 | [],_=>trivial
 |none::r,h=>nW (l:=r) h
 |some k::r,h=>by simp only [rX,zF,Bool.not_eq_true'] at h;exact⟨tQ h.1,nW h.2⟩
def oL:Nat->Nat->List (Option Nat)->Prop
 |_,0,_=>True
 |i,m+1,some k::r=>k=i/\oL (i+1) m r
 |_,_+1,_=>False
theorem lZ:∀(m i:Nat) (ids:List (Option Nat)),oL i m ids->∀j,j<m->ids[j]? =some (some (i+j))
 |0,_,_,_,j,e=>by omega
 |m+1,i,some k::r,h,j,e=>by
  obtain⟨rfl,h⟩:=h
  cases j with
  |zero=>rfl
  |succ j=>
   have :=lZ m (k+1) r h j (by omega);rw [List.getElem?_cons_succ,this]
   congr 2;omega
 |m+1,i,[],h,j,e=>h.elim
 |m+1,i,none::r,h,j,e=>h.elim
theorem aH1:∀ {l:List (Option Nat)},aCU l->∀(i j k:Nat),l[i]? =some (some k)->l[j]? =some (some k)->i=j
 | [],_,i,j,k,h,_=>by simp at h
 |a::r,f,i,j,k,hi,e=>by
  have m:aCU r:=by cases a <;> first |exact f |exact f.2
  cases i with
  |zero=>
   simp only [zE,zse] at hi;subst hi
   cases j with
   |zero=>rfl
   |succ j=>exact absurd (zG (by simpa using e)) f.1
  |succ i=>
   cases j with
   |zero=> simp only [zE,zse] at e;subst e;exact absurd (zG (by simpa using hi)) f.1
   |succ j=>rw [aH1 m i j k (by simpa using hi) (by simpa using e)]
theorem iV {S:aD} {ids:List (Option Nat)} :∀ {l:List (Option Nat)} {obs:List Obj},oY S ids l obs->l.length=obs.length/\∀(j:Nat) o,obs[j]? =some o->
 (∃k p,l[j]? =some (some k)/\S.get k=some p/\bB8 S ids p o)\/(l[j]? =some none/\∃es,o=.row es [])
 | [],[],_=>by simp
 | [],_::_,h=>h.elim
 |some _::_,[],h=>h.elim
 |none::_,[],h=>h.elim
 |some k::r,o::z,h=>by
  obtain⟨h1,h2⟩:=h;obtain⟨f,h4⟩:=iV h2;refine⟨by simp [f],λj q e=>?_⟩
  cases j with
  |zero=>
   simp only [zE,zse] at e;subst e;split at h1
   ·rename_i p m;exact .inl ⟨k,p,rfl,m,h1⟩
   ·cases h1
  |succ j=>simpa using h4 j q (by simpa using e)
 |none::r,o::z,h=>by
  obtain⟨h1,h2⟩:=h;obtain⟨f,h4⟩:=iV h2;refine⟨by simp [f],λj q e=>?_⟩
  cases j with
  |zero=>
   simp only [zE,zse] at e;subst e;split at h1
   ·subst h1;exact .inr ⟨rfl,_,rfl⟩
   ·cases h1
  |succ j=>simpa using h4 j q (by simpa using e)
def qZ(σ:Sg)(ids:List (Option Nat))(obs:List Obj):Sg:=λj=>
 match ids[j]? with
 |some (some k)=>σ k
 |some none=>match obs[j]? with
  |some (.row es _)=>some (none,es,0)
  |_=>none
 |none=>none
section
variable {U:Nat->Prop} {σ:Sg} {S:aD} {w:World} {n:Nat} {ids:List (Option Nat)} {obs:List Obj}
theorem jG(e:oY S ids ids obs) {b:Nat} (h:eW (qZ σ ids obs) (aH 0 obs) b):∃(j k:Nat) (p:Obj) (es cap:Nat),ids[j]? =some (some k)/\S.get k=some p/\σ k=some (some b,es,cap):=by
 obtain⟨j,o,es,cap,f,m⟩:=h;rw [eI,if_pos (zQ _),zM] at f;rcases(iV e).2 j o f with ⟨k,p,h1,h2,B⟩| ⟨h1,z,rfl⟩
 ·simp only [qZ,h1] at m;exact⟨j,k,p,es,cap,h1,h2,m⟩
 ·simp [qZ,h1,f] at m
theorem lK(e:oY S ids ids obs) {b:Nat} (h:Own U (qZ σ ids obs) (aH 0 obs) b):Own U σ S b:= h.imp id λh=>by obtain⟨j,k,p,es,cap,-,h2,f⟩:=jG e h;exact⟨k,p,es,cap,h2,f⟩
theorem aLZ(K:aU U σ S w n)(e:oY S ids ids obs) {x y:V} {v:Value} (h:vw1 S ids x y)(hv:VR (Own U σ S) w σ x v):VR (Own U (qZ σ ids obs) (aH 0 obs)) w (qZ σ ids obs) y v:=by
 have sub:∀ {x v},VR (Own U σ S) w (λ_=>none) x v->∀σ',VR (Own U (qZ σ ids obs) (aH 0 obs)) w σ' x v:=λh σ'=>(h.mono (cB.refl _ _) (λb _ h=>lK e h) λ_ _=>rfl:VR _ _ (λ_=>none) _ _).lift σ';have G:=(iV e).1;unfold vw1 at h;split at h
 ·exact .any _
 ·split at h
  ·obtain⟨h1,rfl,rfl⟩:=h;have B:∀j k,ids[j]? =some (some k)->qZ σ ids obs j=σ k:=λj k h=>by simp [qZ,h]
   cases hv with
   |sl m z F=>exact .sl ((B _ _ h1).trans m) z F
   |sl0 m=>exact .sl0 ((B _ _ h1).trans m)
  ·obtain⟨h1,rfl,rfl⟩:=h;have B:∀j k,ids[j]? =some (some k)->qZ σ ids obs j=σ k:=λj k h=>by simp [qZ,h]
   cases hv with
   |slk m z F hc=>subst hc;exact .sl ((B _ _ h1).trans m) z F
   |slk0 m=>exact .sl0 ((B _ _ h1).trans m)
  ·obtain⟨h1,rfl,rfl,rfl,rfl⟩:=h
   cases hv with
   |lst b o Z F Y E M Q W R=>
    have H:=M rfl;subst H;obtain⟨hj,-⟩:=List.getElem?_eq_some_iff.1 h1;rcases(iV e).2 _ _ (zL (G▸hj)) with ⟨k,p,O,-⟩| ⟨-,es,he⟩
    ·rw [h1] at O;cases O
    ·exact .sl0 (es:=es) (by simp [qZ,h1,zL (G▸hj),he])
  ·cases h
 ·split at h
  ·obtain⟨h1,rfl,rfl,rfl⟩:=h;have B:∀j k,ids[j]? =some (some k)->qZ σ ids obs j=σ k:=λj k h=>by simp [qZ,h]
   cases hv with
   |slk m z F hc=>exact .slk ((B _ _ h1).trans m) z F hc
   |slk0 m=>exact .slk0 ((B _ _ h1).trans m)
  ·cases h
 ·split at h
  ·obtain⟨h1,rfl,rfl⟩:=h;have B:∀j k,ids[j]? =some (some k)->qZ σ ids obs j=σ k:=λj k h=>by simp [qZ,h]
   cases hv with
   |ptr m=>exact .ptr ((B _ _ h1).trans m)
  ·cases h
 ·split at h
  ·have B:∀j k,ids[j]? =some (some k)->qZ σ ids obs j=σ k:=λj k h=>by simp [qZ,h]
   cases hv with
   |mp m=>exact .mp ((B _ _ h).trans m)
  ·cases h
 ·split at h
  ·obtain⟨h1,h2,rfl⟩:=h;refine sub ?_ _
   cases hv with
   | @lst _ _ _ _ ad cap b o Z F Y E M Q W R=>
     rcases h1 with rfl |rfl
     ·exact .lst b o Z F Y E (λhh=>M (h2 hh)) Q W R
     ·exact .lst (xs:= []) b o Z (by simp) (by simp) E (λhh=>M (h2 hh)) (by simp) (by simp) (by simp)
  ·split at h
   ·rename_i k aa len _ D ab J;obtain⟨rfl,rfl,z,rfl,hk⟩:=h
    exact(aLQ K (λb h=>lK e h) hv J z λb es cap m f=>by
     rcases f with hu |f
     ·exact K.disj b ⟨k,_,_,_,J,m⟩ hu
     ·obtain⟨j,k',p,D,C,h1,h2,h3⟩:=jG e f;obtain rfl:=K.inj k k' _ _ b es cap D C J h2 m h3;exact tQ hk (zG h1)).lift _
   ·cases h
  ·split at h
   ·rename_i k aa len c _ D ab J;obtain⟨rfl,M,z,rfl,hk⟩:=h
    exact(aLR K (λb h=>lK e h) hv J z (λb es cap m f=>by
     rcases f with hu |f
     ·exact K.disj b ⟨k,_,_,_,J,m⟩ hu
     ·obtain⟨j,k',p,D,C,h1,h2,h3⟩:=jG e f;obtain rfl:=K.inj k k' _ _ b es cap D C J h2 m h3;exact tQ hk (zG h1)) _ M).lift _
   ·cases h
  ·cases h
 ·split at h
  ·obtain⟨rfl,rfl⟩:=h;cases hv;exact .int _ _
  ·cases h
 ·split at h
  ·obtain rfl:=h;cases hv;exact .bool _
  ·cases h
 ·subst h;exact sub (aW hv rfl) _
 ·subst h;exact sub (aW hv rfl) _
 ·subst h;cases hv;exact .val _
 ·subst h;exact sub (aW hv rfl) _
 ·cases h
theorem aR7(j:aU U σ S w n)(e:oY S ids ids obs) {x y:V} {v:Value} (h:vw2 S ids x y)(hv:VR (Own U σ S) w σ x v):VR (Own U (qZ σ ids obs) (aH 0 obs)) w (qZ σ ids obs) y v:=by
 unfold vw2 at h;split at h
 ·split at h
  ·obtain⟨h1,h2⟩:=sZ h
   cases hv with
   |agg m hc=> refine .agg (by rw [m,h1]) λi y u C z=>?_;obtain⟨x,B,f⟩:=h2 i y C;exact aLZ j e f (hc i x u B z)
  ·cases h
 ·split at h
  ·obtain⟨rfl,h⟩:=h;obtain⟨h1,h2⟩:=sZ h
   cases hv with
   |fn m hc=> refine .fn (by rw [m,h1]) λi y u C z=>?_;obtain⟨x,B,f⟩:=h2 i y C;exact aLZ j e f (hc i x u B z)
  ·cases h
 ·exact aLZ j e h hv
theorem aHZ(j:aU U σ S w n)(e:oY S ids ids obs) {x y:V} {v:Value} (h:vw3 S ids x y)(hv:VR (Own U σ S) w σ x v):VR (Own U (qZ σ ids obs) (aH 0 obs)) w (qZ σ ids obs) y v:=by
 unfold vw3 at h;split at h
 ·split at h
  ·obtain⟨h1,h2⟩:=sZ h
   cases hv with
   |tup m hc=> refine .tup (by rw [m,h1]) λi y u C z=>?_;obtain⟨x,B,f⟩:=h2 i y C;exact aR7 j e f (hc i x u B z)
  ·cases h
 ·exact aR7 j e h hv
theorem aU.view(hR:aU U σ S w n)(hobs:oY S ids ids obs)(hnd:aCU ids):aU U (qZ σ ids obs) (aH 0 obs) w obs.length where
 obj:=λj o hj=>by
  rw [eI,if_pos (zQ _),zM] at hj;rcases(iV hobs).2 j o hj with ⟨k,p,h1,h2,h3⟩| ⟨h1,es',rfl⟩
  ·have hob:=hR.obj k p h2;have hs:qZ σ ids obs j=σ k:=by simp [qZ,h1]
   rw [hs];unfold bB8 at h3;split at h3
   ·obtain⟨rfl,rfl⟩:=h3;obtain⟨hl,h⟩:=hob;refine⟨hl,?_⟩;rcases hσ:σ k with _ | ⟨_ |b,es',cap⟩
    ·rw [hσ] at h;exact h
    ·rw [hσ] at h;exact h
    ·rw [hσ] at h;obtain⟨e1,e2,arr,ty,e3,e4,e5⟩:=h;refine⟨e1,e2,arr,ty,e3,e4,λi x c y hx hy=>?_⟩;obtain⟨u,q1,q2,q3⟩:=e5 i x c y hx hy;exact⟨u,q1,q2,q3.mono (cB.refl _ _) (λb _ h=>lK hobs h) λ_ _=>rfl⟩
   ·obtain⟨hl,hg⟩:=sZ h3;obtain⟨b,e1,arr,ty,e3,e4,e5⟩:=hob;refine⟨b,by rw [e1,hl],arr,ty,e3,by rw [e4,hl],λc y hy=>?_⟩;obtain⟨x,hx,hxy⟩:=hg c y hy;obtain⟨u,q1,q2,q3⟩:=e5 c x hx;exact⟨u,q1,q2,aLZ hR hobs hxy q3⟩
   ·subst h3;obtain⟨b,e1,es,ck,e3,e4,e5⟩:=hob;refine⟨b,e1,es,ck,e3,e4,λi p hp=>?_⟩;obtain⟨en,q1,q2,q3⟩:=e5 i p hp;exact⟨en,q1,q2,q3.mono (cB.refl _ _) (λb _ h=>lK hobs h) λ_ _=>rfl⟩
   ·subst h3;exact hob
   ·rename_i xs es rows;obtain⟨rfl,rfl,hf⟩:=h3;obtain⟨b,e1,arr,ty,e3,e4,e5⟩:=hob;refine⟨λx hx=>by rw [List.mem_singleton.1 hx],?_⟩;rw [e1];refine⟨rfl,⟨by simp,by omega⟩,arr,(ty,false),e3,by rw [Nat.one_mul,e4];exact zJ _,λi x c y hx hy=>?_⟩
    cases i with
    |succ i=>simp at hx
    |zero=> simp only [zE,zse] at hx;subst hx;obtain⟨u,q1,q2,q3⟩:=e5 c y hy;exact⟨u,by rw [Nat.zero_mul,Nat.zero_add];exact q1,q2,(aW q3 (List.all_eq_true.1 hf y (zG hy))).mono (cB.refl _ _) (λb _ h=>lK hobs h) λ_ _=>rfl⟩
   ·cases h3
  ·exact⟨by simp,by simp [qZ,h1,hj]⟩
 inj:=λj j' o o' b es cap es' cap' hj hj' hs hs'=>by
  rw [eI,if_pos (zQ _),zM] at hj hj';rcases(iV hobs).2 j o hj with ⟨k,p,h1,h2,h3⟩| ⟨h1,es1,rfl⟩
  ·rcases(iV hobs).2 j' o' hj' with ⟨k',p',h1',h2',h3'⟩| ⟨h1',es1,rfl⟩
   ·simp only [qZ,h1] at hs;simp only [qZ,h1'] at hs';obtain rfl:=hR.inj k k' p p' b es cap es' cap' h2 h2' hs hs';exact aH1 hnd j j' k h1 h1'
   ·simp [qZ,h1',hj'] at hs'
  ·simp [qZ,h1,hj] at hs
 fresh:=λj hj=>by have hlen:=(iV hobs).1;refine⟨by rw [eI,if_pos (zQ _),zM,zO (by omega)],?_⟩;simp [qZ,zO (show ids.length<=j by omega)]
 disj:=λb hb hu=>by obtain⟨j,k,p,es,cap,-,h2,h3⟩:=jG hobs hb;exact hR.disj b ⟨k,p,es,cap,h2,h3⟩ hu
 ulim:=hR.ulim
 gl:=hR.gl.less λb h=>lK hobs h
end
end Go.Sk
namespace Go.Sk
open Go Go.RowKit
variable [gI]
def nN:V->(V->Prop)->Prop
 | .any,K=>K .any
 | .int k n,K=>K (.int k n)
 | .bool b,K=>K (.bool b)
 | .str s,K=>K (.str s)
 | .agg cs,K=>K (.agg cs)
 | .tup cs,K=>K (.tup cs)
 | .nil,K=>K .nil
 | .ptr k i c,K=>K (.ptr k i c)
 | .rp es cs c,K=>K (.rp es cs c)
 | .sl k off len,K=>K (.sl k off len)
 | .slx k off len,K=>K (.slx k off len)
 | .slk k off len c,K=>K (.slk k off len c)
 | .lst es t xs,K=>K (.lst es t xs)
 | .fn f cs,K=>K (.fn f cs)
 | .mp k,K=>K (.mp k)
 | .val v,K=>K (.val v)
theorem iR(v:V)(K:V->Prop):nN v K=K v:=by cases v <;> rfl
def jN:List V->(List V->Prop)->Prop
 | [],K=>K []
 |v::r,K=>nN v λv=>jN r λr=>K (v::r)
theorem fU:∀(l:List V) (K:List V->Prop),jN l K=K l
 | [],_=>rfl
 |v::r,K=>by simp only [jN,iR,fU r]
def dH:aD->(aD->Prop)->Prop
 | [],K=>K []
 | (j,.row es xs)::r,K=>dH r λr'=>K ((j,.row es xs)::r')
 | (j,.box cs)::r,K=>jN cs λcs=>dH r λr'=>K ((j,.box cs)::r')
 | (j,.mp xs)::r,K=>dH r λr'=>K ((j,.mp xs)::r')
 | (j,.bb l)::r,K=>dH r λr'=>K ((j,.bb l)::r')
theorem eH:∀(S:aD) (K:aD->Prop),dH S K=K S
 | [],_=>rfl
 | (j,.row es xs)::r,K=>by simp only [dH,eH r]
 | (j,.box cs)::r,K=>by simp only [dH,fU,eH r]
 | (j,.mp xs)::r,K=>by simp only [dH,eH r]
 | (j,.bb l)::r,K=>by simp only [dH,eH r]
def aMV:aY->Nat->(aY->Prop)->Prop
 | [],_,K=>K []
 | (j,q)::r,d,K=>match Nat.beq d j with
   |true=>aMV r d K
   |false=>aMV r d λr'=>K ((j,q)::r')
theorem aFZ:∀(l:aY) (d:Nat) (K:aY->Prop),aMV l d K=K (aI8 l d)
 | [],_,_=>rfl
 | (j,q)::r,d,K=>by
   simp only [aMV,aI8]
   cases h:Nat.beq d j with
   |true=>rw [if_pos (zI h)];exact aFZ r d K
   |false=>rw [if_neg (zH h)];exact aFZ r d _
def aTI:aY->Nat->SV->(aY->Prop)->Prop
 | [],d,s,K=>K [(d,s)]
 | (j,q)::r,d,s,K=>match Nat.beq d j with
   |true=>aMV r d λr'=>K ((d,s)::r')
   |false=>aTI r d s λr'=>K ((j,q)::r')
theorem aOT:∀(l:aY) (d:Nat) (s:SV) (K:aY->Prop),aTI l d s K=K (aEO l d s)
 | [],_,_,_=>rfl
 | (j,q)::r,d,s,K=>by
   simp only [aTI,aEO]
   cases h:Nat.beq d j with
   |true=>rw [if_pos (zI h)];exact aFZ r d _
   |false=>rw [if_neg (zH h)];exact aOT r d s _
def aBH(l:aY)(d:Option Nat)(s:SV)(K:aY->Prop):Prop:=
 match d with
 |some d=>aTI l d s K
 |none=>K l
theorem qT(l:aY)(d:Option Nat)(s:SV)(K:aY->Prop):aBH l d s K=K (sV l d s):=by
 cases d with
 |none=>rfl
 |some d=>exact aOT l d s K
def cG:Nat->Nat->Nat->(Nat->Prop)->Prop
 |0,_,n,K=>K n
 |f+1,i,n,K=>match Nat.beq n i with
  |true=>K i
  |false=>cG f (i+1) n K
theorem dN:∀(f i n:Nat) (K:Nat->Prop),cG f i n K=K n
 |0,_,_,_=>rfl
 |f+1,i,n,K=>by
  simp only [cG]
  cases h:Nat.beq n i with
  |true=>rw [zI h]
  |false=>exact dN f (i+1) n K
def cZ:List Nat->(List Nat->Prop)->Prop
 | [],K=>K []
 |k::r,K=>cZ r λr'=>K (k::r')
theorem fT:∀(l:List Nat) (K:List Nat->Prop),cZ l K=K l
 | [],_=>rfl
 |k::r,K=>by simp only [cZ,fT r]
def rP:aY->(aY->Prop)->Prop
 | [],K=>K []
 | (d,⟨ch,gc,v⟩)::r,K=>nN v λv=>rP r λr'=>K ((d,⟨ch,gc,v⟩)::r')
theorem nM:∀(l:aY) (K:aY->Prop),rP l K=K l
 | [],_=>rfl
 | (d,⟨ch,e,v⟩)::r,K=>by simp only [rP,iR,nM r]
def rQ(sl:aY)(g:Option (Nat×Bool))(K:List (Nat×Bool)->Bool->Prop):Prop:=
 match g with
 |none=>K [] true
 |some (gd,b)=>match eC sl gd with
  |some ⟨ch,gc,v⟩=>(match v with
   | .bool x=>(match ch,b with
     | [],true=>K [(gd,true)] x
     | [],false=>K [(gd,false)] (!x)
     |c::r,true=>K ((gd,true)::c::r) (gc&&x)
     |c::r,false=>K ((gd,false)::c::r) (gc&& !x))
   | .any=>(match ch,gc with
     |c::r,false=>K ((gd,b)::c::r) false
     |_,_=>False)
   |_=>False)
  |none=>False
theorem mW(sl:aY)(g:Option (Nat×Bool))(K:List (Nat×Bool)->Bool->Prop):rQ sl g K=match guardOf sl g with
 |none=>False
 |some (ch,e)=>K ch e:=by
 cases g with
 |none=>rfl
 |some p=>
  obtain⟨f,b⟩:=p;simp only [rQ,guardOf]
  cases h:eC sl f with
  |none=>rfl
  |some s=> obtain⟨ch,e,v⟩:=s;cases v <;> first |rfl | (cases ch <;> cases b <;> rfl)| (cases ch <;> cases e <;> rfl)
end Go.Sk
namespace Go.Sk
open Go Go.RowKit
variable [gI]
theorem aWV {op:BinOp} {k:IntKind} {a b:Int} {e:Bool} {K:V->Prop} (h:aEG op k a b e K):∃v,K v/\aEG op k a b e λf=>f=v:=by
 cases op <;> simp only [aEG] at h⊢<;> first |exact⟨_,h,rfl⟩|exact⟨_,h.2,h.1,rfl⟩
theorem aLD {S:aD} {i:I} {e:A->V} {f:Bool} {K:V->Prop} (h:gL S i e f K):∃v,K v/\gL S i e f λj=>j=v:=by
 revert h;unfold gL
 repeat' split
 all_goals intro h
 all_goals first
  |exact h.elim
  | (obtain⟨v,h1,h2⟩:=aWV h.2;exact⟨v,h1,h.1,h2⟩)
  | (obtain⟨r,h1,h2⟩:=tN h;exact⟨_,h1,pZ (λr' e=>by subst e;rfl) h2⟩)
  |exact⟨_,h,rfl⟩
  |exact⟨_,h.2,h.1,rfl⟩
  |exact⟨_,h.2.2,h.1,h.2.1,rfl⟩
theorem aTW {S:aD} {n:Nat} {i:I} {e:A->V} {K:V->aD->Nat->Prop} (h:oZ S n i e K):∃v f j,K v f j/\oZ S n i e λa b c=>a=v/\b=f/\c=j:=by
 revert h;unfold oZ
 repeat' split
 all_goals intro h
 all_goals first
  |exact h.elim
  |exact⟨_,_,_,h,rfl,rfl,rfl⟩
  |exact⟨_,_,_,h.2,h.1,rfl,rfl,rfl⟩
  |exact⟨_,_,_,h.2.2,h.1,h.2.1,rfl,rfl,rfl⟩
  |exact⟨_,_,_,h.2.2.2,h.1,h.2.1,h.2.2.1,rfl,rfl,rfl⟩
  |exact⟨_,_,_,h.2.2.2.2,h.1,h.2.1,h.2.2.1,h.2.2.2.1,rfl,rfl,rfl⟩
  |exact⟨_,_,_,h.2.2.2.2.2,h.1,h.2.1,h.2.2.1,h.2.2.2.1,h.2.2.2.2.1,rfl,rfl,rfl⟩
  |exact⟨_,_,_,h.2.2.2.2.2.2,h.1,h.2.1,h.2.2.1,h.2.2.2.1,h.2.2.2.2.1,h.2.2.2.2.2.1,rfl,rfl,rfl⟩
  | (obtain⟨h1,h2,m⟩:=h
     revert m
     repeat' split
     all_goals intro h
     all_goals first
      |exact h.elim
      |exact⟨_,_,_,h.2.2,h1,h2,h.1,h.2.1,rfl,rfl,rfl⟩
      |exact⟨_,_,_,h.2.2.2.2.2,h1,h2,h.1,h.2.1,h.2.2.1,h.2.2.2.1,h.2.2.2.2.1,rfl,rfl,rfl⟩)
theorem aNK {P:Program} {st:St} {ch:List (Nat×Bool)} {m:Bool} {i:I} {K:V->aD->Nat->Prop} (h:nP P st ch m i K):
 ∃v S n,K v S n/\nP P st ch m i λa b c=>a=v/\b=S/\c=n:=by
 have R:∀i,nP P st ch m i K->(∀K,nP P st ch m i K=gL st.so i (bP st.sl ch) m λv=>K v st.so st.nx)->∃v S n,K v S n/\nP P st ch m i λa b c=>a=v/\b=S/\c=n:=by intro i h H;rw [H] at h;obtain⟨v,h1,h2⟩:=aLD h;exact⟨v,_,_,h1,by rw [H];simpa using h2⟩
 have E:∀i,nP P st ch m i K->(∀K,nP P st ch m i K=mJ st.sl st.so st.nx ch m i K)->∃v S n,K v S n/\nP P st ch m i λa b c=>a=v/\b=S/\c=n:=by
  intro i h H;rw [H] at h;unfold mJ at h
  cases ch with
  |nil=> obtain⟨v,S,n,h1,h2⟩:=aTW h;exact⟨v,S,n,h1,by rw [H];exact h2⟩
  |cons g r=>
   cases m with
   |true=> obtain⟨v,S,n,h1,h2⟩:=aTW (h.1 rfl);exact⟨v,S,n,h1,by rw [H];exact⟨λ_=>h2,(by intro h;cases h)⟩⟩
   |false=>exact⟨_,_,_,h.2 rfl,by rw [H];exact⟨(by intro h;cases h),λ_=>⟨rfl,rfl,rfl⟩⟩⟩
 cases i with
 |pick c a b=>
  cases c with
  |c v=>exact R _ h λ_=>rfl
  |t tc=>
   simp only [nP,dJ] at h⊢;split at h
   ·split at h
    ·exact⟨_,_,_,h,rfl,rfl,rfl⟩
    ·split at h
     ·exact⟨_,_,_,h,rfl,rfl,rfl⟩
     ·exact⟨_,_,_,h,rfl,rfl,rfl⟩
   ·exact⟨_,_,_,h.2,h.1,rfl,rfl,rfl⟩
 |build z ps=>
  simp only [nP,dJ] at h⊢;split at h
  ·rename_i Y W;exact⟨_,_,_,h.2,h.1,rfl,rfl,rfl⟩
  ·exact h.elim
 |call f xs=>
  simp only [nP,dJ] at h⊢;rcases h with ⟨j,h1,h2,B⟩| ⟨F,G⟩| ⟨F,G⟩| ⟨F,G⟩
  ·exact⟨_,_,_,B,.inl ⟨j,h1,h2,rfl,rfl,rfl⟩⟩
  ·cases m with
   |false=>exact⟨_,_,_,G rfl,.inr ⟨(λh=>by cases h),λ_=>⟨rfl,rfl,rfl⟩⟩⟩
   |true=> obtain⟨L,C,D,j,h1,h2,B,h5,M,O⟩:=F rfl;exact⟨_,_,_,O,.inr ⟨λ_=>⟨L,C,D,j,h1,h2,B,h5,M,rfl,rfl,rfl⟩,(λh=>by cases h)⟩⟩
  ·cases m with
   |false=>exact⟨_,_,_,G rfl,.frz ⟨(λh=>by cases h),λ_=>⟨rfl,rfl,rfl⟩⟩⟩
   |true=> obtain⟨J,j,h1,h2,B⟩:=F rfl;exact⟨_,_,_,B,.frz ⟨λ_=>⟨J,j,h1,h2,rfl,rfl,rfl⟩,(λh=>by cases h)⟩⟩
  ·cases m with
   |false=>exact⟨_,_,_,G rfl,.mov ⟨(λh=>by cases h),λ_=>⟨rfl,rfl,rfl⟩⟩⟩
   |true=> obtain⟨L,C,D,j,h1,h2,B,h4,h5⟩:=F rfl;exact⟨_,_,_,h5,.mov ⟨λ_=>⟨L,C,D,j,h1,h2,B,h4,rfl,rfl,rfl⟩,(λh=>by cases h)⟩⟩
 |vcall x xs=>
  simp only [nP,dJ] at h⊢;split at h
  ·rename_i f Q Z;obtain⟨hc,h⟩:=h;rcases h with ⟨j,h1,h2,B⟩| ⟨F,G⟩| ⟨F,G⟩| ⟨F,G⟩
   ·exact⟨_,_,_,B,hc,.inl ⟨j,h1,h2,rfl,rfl,rfl⟩⟩
   ·cases m with
    |false=>exact⟨_,_,_,G rfl,hc,.inr ⟨(λh=>by cases h),λ_=>⟨rfl,rfl,rfl⟩⟩⟩
    |true=> obtain⟨L,C,D,j,h1,h2,B,h5,M,O⟩:=F rfl;exact⟨_,_,_,O,hc,.inr ⟨λ_=>⟨L,C,D,j,h1,h2,B,h5,M,rfl,rfl,rfl⟩,(λh=>by cases h)⟩⟩
   ·cases m with
    |false=>exact⟨_,_,_,G rfl,hc,.frz ⟨(λh=>by cases h),λ_=>⟨rfl,rfl,rfl⟩⟩⟩
    |true=> obtain⟨J,j,h1,h2,B⟩:=F rfl;exact⟨_,_,_,B,hc,.frz ⟨λ_=>⟨J,j,h1,h2,rfl,rfl,rfl⟩,(λh=>by cases h)⟩⟩
   ·cases m with
    |false=>exact⟨_,_,_,G rfl,hc,.mov ⟨(λh=>by cases h),λ_=>⟨rfl,rfl,rfl⟩⟩⟩
    |true=> obtain⟨L,C,D,j,h1,h2,B,h4,h5⟩:=F rfl;exact⟨_,_,_,h5,hc,.mov ⟨λ_=>⟨L,C,D,j,h1,h2,B,h4,rfl,rfl,rfl⟩,(λh=>by cases h)⟩⟩
  ·exact⟨_,_,_,h.2,h.1,rfl,rfl,rfl⟩
 |clr a b c=>exact E _ h λ_=>rfl
 |alloc z=>exact E _ h λ_=>rfl
 |box z=>exact E _ h λ_=>rfl
 |st a b c=>exact E _ h λ_=>rfl
 |mkmap a=>exact E _ h λ_=>rfl
 |mput a b c=>exact E _ h λ_=>rfl
 |mputp a b c=>exact E _ h λ_=>rfl
 |bslice a b c d=>exact E _ h λ_=>rfl
 |mk a b c d e=>exact E _ h λ_=>rfl
 |app a b c d=>exact E _ h λ_=>rfl
 |cpy a b c=>exact E _ h λ_=>rfl
 |s2b a=>exact E _ h λ_=>rfl
 |aslc a b c=>exact E _ h λ_=>rfl
 |cpys a b=>exact E _ h λ_=>rfl
 |_=>exact R _ h λ_=>rfl
def look(sl:aY):List Nat->aY
 | []=> []
 |d::r=>match eC sl d with
  |some s=>(d,s)::look sl r
  |none=>look sl r
theorem mC {sl:aY} :∀ {l:List Nat} {d:Nat} {s:SV},(d,s)∈look sl l->d∈l/\eC sl d=some s
 | [],_,_,h=>by simp [look] at h
 |a::r,d,s,h=>by
  simp only [look] at h;split at h
  ·rename_i q e;rcases List.mem_cons.1 h with h |h
   ·obtain⟨rfl,rfl⟩:=Prod.mk.inj h;exact⟨by simp,e⟩
   ·exact⟨zD _ (mC h).1,(mC h).2⟩
  ·exact⟨zD _ (mC h).1,(mC h).2⟩
def iK(S:aD):List Nat->aD
 | []=> []
 |k::r=>match S.get k with
  |some o=>(k,o)::iK S r
  |none=>iK S r
theorem kC {S:aD} :∀ {l:List Nat} {k:Nat},(iK S l).get k=if k∈l then S.get k else none
 | [],k=>by simp [iK,aD.get]
 |a::r,k=>by
  simp only [iK];split
  ·rename_i o e;simp only [aD.get]
   by_cases h:k=a
   ·subst h;simp [e]
   ·rw [if_neg h,kC];simp [h]
  ·rename_i e;rw [kC]
   by_cases h:k=a
   ·subst h;simp [e]
   ·simp [h]
theorem aDN {S e:aD} :∀ {l:List Nat},(∀k∈l,e.get k=S.get k)->iK e l=iK S l
 | [],_=>rfl
 |a::r,h=>by simp only [iK];rw [h a (by simp),aDN λd f=>h d (zD _ f)]
def aBD(S S1:aD):List Nat->aD
 | []=>S
 |k::r=>match S1.get k with
  |some o=>(aBD S S1 r).set k o
  |none=>(aBD S S1 r).del k
theorem nZ {S S1:aD} :∀ {l:List Nat} {k:Nat},(aBD S S1 l).get k=if k∈l then S1.get k else S.get k
 | [],k=>by simp [aBD]
 |a::r,k=>by
  simp only [aBD];split
  ·rename_i o e;rw [aD.get_set,nZ]
   by_cases h:k=a
   ·subst h;simp [e]
   ·simp [h]
  ·rename_i e;rw [aD.get_del,nZ]
   by_cases h:k=a
   ·subst h;simp [e]
   ·simp [h]
theorem aU.congr {U:Nat->Prop} {σ:Sg} {S f:aD} {w:World} {n:Nat} (h:∀k,f.get k=S.get k)(e:aU U σ S w n):aU U σ f w n:=by
 have D:∀b,Own U σ f b↔Own U σ S b:=λb=>by unfold Own eW;simp only [h]
 have B:∀b,eW σ f b↔eW σ S b:=λb=>by unfold eW;simp only [h]
 have m:Own U σ f=Own U σ S:=funext λb=>propext (D b)
 exact⟨λk o C=>by rw [m];exact e.obj k o (by rw [<-h];exact C),λk F o G b es cap z j h1 h2=>e.inj k F o G b es cap z j (by rw [<-h];exact h1) (by rw [<-h];exact h2),
  λk C=>by rw [h];exact e.fresh k C,λb E=>e.disj b ((B b).1 E),e.ulim,by rw [m];exact e.gl⟩
theorem aU.wider {U:Nat->Prop} {σ:Sg} {S:aD} {w:World} {n f:Nat} (h:n<=f)(e:aU U σ S w n):aU U σ S w f:= ⟨e.obj,e.inj,λk j=>e.fresh k (by omega),e.disj,e.ulim,e.gl⟩
def Uf(U:Nat->Prop)(σ:Sg)(S:aD)(T:List Nat)(b:Nat):Prop:=U b\/∃k o es cap,k∉T/\S.get k=some o/\σ k=some (some b,es,cap)
section
variable {U:Nat->Prop} {σ:Sg} {S:aD} {w:World} {n:Nat} {T:List Nat}
theorem aPE {b:Nat} (h:Own (Uf U σ S T) σ (iK S T) b):Own U σ S b:=by
 rcases h with (f | ⟨k,o,es,cap,-,h2,e⟩)| ⟨k,o,es,cap,h2,e⟩
 ·exact .inl f
 ·exact .inr ⟨k,o,es,cap,h2,e⟩
 ·rw [kC] at h2;split at h2
  ·exact .inr ⟨k,o,es,cap,h2,e⟩
  ·cases h2
theorem lB.less {O O':Nat->Prop} (G:∀b,O' b->O b) {f:Option (Option Nat×Nat×Nat)} {o:Obj} (h:lB O w σ f o):lB O' w σ f o:=by
 have g0:∀ {σ x v},VR O w σ x v->VR O' w σ x v:=λh=>h.mono (cB.refl _ _) (λb _ H=>G b H) λ_ _=>rfl
 cases o with
 |row es xs=>
  obtain⟨J,h⟩:=h;refine⟨J,?_⟩;rcases f with _ | ⟨_ |b,F,cap⟩
  ·exact h
  ·exact h
  ·obtain⟨rfl,e1,e,D,j,m,z⟩:=h;refine⟨rfl,e1,e,D,j,m,λi x c y M C=>?_⟩;obtain⟨v,q1,q2,B⟩:=z i x c y M C;exact⟨v,q1,q2,g0 B⟩
 |box Q=> obtain⟨b,rfl,e,D,j,m,z⟩:=h;refine⟨b,rfl,e,D,j,m,λc y C=>?_⟩;obtain⟨v,q1,q2,B⟩:=z c y C;exact⟨v,q1,q2,g0 B⟩
 |mp xs=> obtain⟨b,rfl,es,E,j,m,z⟩:=h;refine⟨b,rfl,es,E,j,m,λi p K=>?_⟩;obtain⟨en,q1,q2,B⟩:=z i p K;exact⟨en,q1,q2,g0 B⟩
 |bb l=>exact h
theorem aU.part(j:aU U σ S w n)(T:List Nat):aU (Uf U σ S T) σ (iK S T) w n:=by
 have hg:∀k o,(iK S T).get k=some o->k∈T/\S.get k=some o:=λk o h=>by
  rw [kC] at h;split at h
  ·rename_i z;exact⟨z,h⟩
  ·cases h
 refine⟨λk o z=>(j.obj k o (hg k o z).2).less λb=>aPE,λk B o C b es cap f e h1 h2=>j.inj k B o C b es cap f e (hg k o h1).2 (hg B C h2).2,λk z=>⟨?_,(j.fresh k z).2⟩,λb E m=>?_,λb m=>?_,j.gl.less λb=>aPE⟩
 ·rw [kC,(j.fresh k z).1];simp
 ·obtain⟨k,o,es,cap,h1,h2⟩:=E;rcases m with m | ⟨B,C,f,e,D,h4,h5⟩
  ·exact j.disj b ⟨k,o,es,cap,(hg k o h1).2,h2⟩ m
  ·obtain rfl:=j.inj k B o C b es cap f e (hg k o h1).2 h4 h2 h5;exact D (hg k o h1).1
 ·rcases m with m | ⟨B,C,f,e,D,h4,h5⟩
  ·exact j.ulim b m
  ·exact j.size ⟨B,C,f,e,h4,h5⟩
theorem aU.whole(W:aU U σ S w n) {σ':Sg} {S1 S2:aD} {w':World} {R:Nat->Prop} (hT:∀k∈T,R k)(ab:∀k,R k->k∉T->S.get k=Option.none)(Z:∀k,R k->S2.get k=S1.get k)
 (O:∀k,¬R k->S2.get k=S.get k/\σ' k=σ k/\S1.get k=Option.none) (g:bM σ (iK S T) w n σ' S1 w' n) (H:aU (Uf U σ S T) σ' S1 w' n):
 bM σ S w n σ' S2 w' n/\aU U σ' S2 w' n/\∀b,Own U σ' S2 b->Own (Uf U σ S T) σ' S1 b:=by
 have B:∀b,eW σ (iK S T) b->∃k o es cap,k∈T/\S.get k=some o/\σ k=some (some b,es,cap):=by
  rintro b ⟨k,o,es,cap,h1,h2⟩;rw [kC] at h1;split at h1
  ·rename_i j;exact⟨k,o,es,cap,j,h1,h2⟩
  ·cases h1
 have e:∀k o,S2.get k=some o->(S.get k=some o/\k∉T/\σ' k=σ k)\/S1.get k=some o:=by
  intro k o j
  by_cases h:R k
  ·rw [Z k h] at j;exact .inr j
  ·obtain⟨h1,h2,-⟩:=O k h;rw [h1] at j;exact .inl ⟨j,λhm=>h (hT k hm),h2⟩
 have g2:bM σ S w n σ' S2 w' n:=by
  refine⟨g.keep.wider λb Y=>by obtain⟨k,o,es,cap,-,h2,G⟩:=B b Y;exact⟨k,o,es,cap,h2,G⟩,λb Y hO=>?_,g.sg,zJ _⟩;obtain⟨k,o,es,cap,j,D⟩:=hO;rcases e k o j with ⟨h1,-,h2⟩|h1
  ·exact⟨k,o,es,cap,h1,h2▸D⟩
  ·obtain⟨k,o,es,cap,-,h2,G⟩:=B b (g.own b Y ⟨k,o,es,cap,h1,D⟩);exact⟨k,o,es,cap,h2,G⟩
 have Q:∀b,Own U σ' S2 b->Own (Uf U σ S T) σ' S1 b:=by
  rintro b (hu | ⟨k,o,es,cap,j,D⟩)
  ·exact .inl (.inl hu)
  ·rcases e k o j with ⟨h1,G,h2⟩|h1
   ·exact .inl (.inr ⟨k,o,es,cap,G,h1,h2▸D⟩)
   ·exact .inr ⟨k,o,es,cap,h1,D⟩
 have E:∀b k o es cap,k∉T->S.get k=some o->σ k=some (some b,es,cap)->¬eW σ' S1 b:=by intro b k o es cap j h1 h2 hO;have Y:=W.size ⟨k,o,es,cap,h1,h2⟩;obtain⟨K,M,z,f,F,m,C⟩:=B b (g.own b Y hO);obtain rfl:=W.inj k K o M b es cap z f h1 m h2 C;exact j F
 refine⟨g2,W.step g2 (λk j=>?_) (λk K o M b es cap z f j F D J=>?_) (λk o j=>?_),Q⟩
 ·refine⟨?_,(H.fresh k j).2⟩
  by_cases h:R k
  ·rw [Z k h];exact(H.fresh k j).1
  ·rw [(O k h).1];exact(W.fresh k j).1
 ·rcases e k o j with ⟨h1,G,h2⟩|h1 <;> rcases e K M F with ⟨m,aa,C⟩|m
  ·exact W.inj k K o M b es cap z f h1 m (h2▸D) (C▸J)
  ·exact absurd ⟨K,M,z,f,m,J⟩ (E b k o es cap G h1 (h2▸D))
  ·exact absurd ⟨k,o,es,cap,h1,D⟩ (E b K M z f aa m (C▸J))
  ·exact H.inj k K o M b es cap z f h1 m D J
 ·rcases e k o j with ⟨h1,G,h2⟩|h1
  ·left;refine⟨h1,λb es cap D=>g.keep.block b (W.size ⟨k,o,es,cap,h1,D⟩) λhO=>?_⟩;obtain⟨K,M,z,f,F,m,C⟩:=B b hO;obtain rfl:=W.inj k K o M b es cap z f h1 m D C;exact G F
  ·right;exact(H.obj k o h1).less Q
end
end Go.Sk
namespace Go.Sk
open Go Go.RowKit
variable [gI]
structure Rec where
 m:Nat
 rd:List Nat
 cs:List Nat
 d:Option Nat
 s:SV
 T:List Nat
 ids:List Nat
 S1:aD
def bCU:V->List Nat
 | .ptr k _ _=> [k]
 | .sl k _ _=> [k]
 | .slx k _ _=> [k]
 | .slk k _ _ _=> [k]
 | .mp k=> [k]
 |_=> []
def aS3:List V->List Nat
 | []=> []
 |v::r=>bCU v++aS3 r
def qE:V->List Nat
 | .agg cs=>aS3 cs
 | .fn _ cs=>aS3 cs
 |v=>bCU v
def aJ0:aY->List Nat
 | []=> []
 | (_,s)::r=>qE s.v++aJ0 r
def bRB(i:I)(SL:aY):List Nat:=
 match i with
 | .mv _=> []
 | .faddr _ _=> []
 | .extr _ _=> []
 |_=>aJ0 SL
def bCV(S:aD):List Nat->List Nat
 | []=> []
 |k::r=>match S.get k with
  |some (.box cs)=>aS3 cs++bCV S r
  |_=>bCV S r
def tU(i:I)(SL:aY)(S:aD):List Nat:=
 match i with
 | .call _ _=>aJ0 SL++bCV S (aJ0 SL)
 | .vcall _ _=>aJ0 SL++bCV S (aJ0 SL)
 |i=>bRB i SL
def aT:A->List Nat
 | .t n=> [n]
 | .c _=> []
def aTs:List A->List Nat
 | []=> []
 |a::r=>aT a++aTs r
def aOZ:I->List Nat
 | .mv x=>aT x | .pick c a b=>aT c++aT a++aT b | .un _ x=>aT x | .bin _ x y=>aT x++aT y | .conv _ x=>aT x | .nilck x=>aT x | .faddr _ x=>aT x
 | .fget _ _ _ x=>aT x | .ld _ _ x=>aT x | .st _ x y=>aT x++aT y | .iaddr _ x i=>aT x++aT i | .iarr _ _ x i=>aT x++aT i | .aidx _ x i=>aT x++aT i
 | .slc _ x lo hi=>aT x++(match lo with |some l=>aT l |none=> [])++(match hi with |some l=>aT l |none=> [])
 | .eqb _ x y=>aT x++aT y | .eqs _ _ x y=>aT x++aT y
 | .len x=>aT x | .mx x y=>aT x++aT y | .mn x y=>aT x++aT y | .extr _ x=>aT x
 | .build _ ps=>aTs (ps.map λp=>p.2.2)
 | .alloc _=> [] | .box x=>aT x | .bslice _ _ _ ps=>aTs (ps.map λp=>p.2)| .mk _ _ _ l c=>aT l++aT c | .app _ _ x y=>aT x++aT y | .cpy _ x y=>aT x++aT y
 | .mkmap _=> [] | .mget _ _ x i=>aT x++aT i | .mput x i y=>aT x++aT i++aT y | .mgetp _ _ x i=>aT x++aT i | .mputp x i y=>aT x++aT i++aT y
 | .call _ xs=>aTs xs
 | .vcall x xs=>aT x++aTs xs
 | .clr _ _ x=>aT x
 | .slen x=>aT x | .sidx x i=>aT x++aT i | .scat x y=>aT x++aT y | .sqs _ x y=>aT x++aT y | .b2s x=>aT x | .s2b x=>aT x | .cpys x y=>aT x++aT y
 | .aslc _ x hi=>aT x++(match hi with |some l=>aT l |none=> [])
 | .ssl x lo hi=>aT x++(match lo with |some l=>aT l |none=> [])++(match hi with |some l=>aT l |none=> [])
 | .slc3 _ x lo hi mx=>aT x++(match lo with |some l=>aT l |none=> [])++aT hi++aT mx
 | .isnil _ x=>aT x
 | .mkfn _ xs=>aTs xs
 | .bad=> []
def gsl:Option (Nat×Bool)->List Nat
 |none=> []
 |some (g,_)=> [g]
def chT:List (Nat×Bool)->List Nat
 | []=> []
 | (g,_)::r=>g::chT r
def chs:aY->List Nat
 | []=> []
 | (_,s)::r=>chT s.ch++chs r
def wrI(SL:aY)(T:List Nat)(m n1:Nat):I->List Nat
 | .st _ x _=>qE (bP SL [] x)
 | .cpy _ x _=>qE (bP SL [] x)
 | .clr _ _ x=>qE (bP SL [] x)
 | .mput x _ _=>qE (bP SL [] x)
 | .mputp x _ _=>qE (bP SL [] x)
 | .cpys x _=>qE (bP SL [] x)
 | .aslc _ x _=>qE (bP SL [] x)
 | .call f _=>match Nat.beq n1 m with
   |true=> []
   |false=>match iS f gI.ro with
    |true=> []
    |false=>T
 |_=>match Nat.beq n1 m with
  |true=> []
  |false=>T
def aGY(m:Nat):aD->List Nat
 | []=> []
 | (k,_)::r=>match Nat.ble m k with
   |true=>k::aGY m r
   |false=>aGY m r
def aCK(T:List Nat)(m:Nat):aD->Bool
 | []=>true
 | (k,_)::r=>(iS k T||(Nat.ble m k&&Nat.blt k (m+16)))&&aCK T m r
def qN:Option Nat->List Nat->Bool
 |none,_=>true
 |some d,l=> !iS d l
def aJS(SO S1:aD)(W:List Nat):List Nat->Prop
 | []=>True
 |k::r=>match iS k W with
  |true=>aJS SO S1 W r
  |false=>S1.get k=SO.get k/\aJS SO S1 W r
def aE2(SO S1:aD)(W:List Nat)(K:Prop):List Nat->Prop
 | []=>K
 |k::r=>match iS k W with
  |true=>aE2 SO S1 W K r
  |false=>S1.get k=SO.get k/\aE2 SO S1 W K r
theorem sF {e S1:aD} {W:List Nat} {K:Prop} :∀ {T:List Nat},aE2 e S1 W K T->aJS e S1 W T/\K
 | [],h=>⟨trivial,h⟩
 |k::r,h=>by
  simp only [aE2,aJS] at h⊢;split at h
  ·exact sF h
  ·exact⟨⟨h.1,(sF h.2).1⟩,(sF h.2).2⟩
def aFN(n:Nat):List Nat->Bool
 | []=>true
 |k::r=>Nat.blt k n&&aFN n r
def aIE:List Nat->List Nat->Bool
 | [],_=>true
 |k::r,l=>iS k l&&aIE r l
def aIQ:List Nat->List Nat->Bool
 | [],_=>true
 |k::r,l=> !iS k l&&aIQ r l
def aFR(m:Nat):List Nat->Bool
 | []=>true
 |k::r=>(Nat.blt k m||Nat.ble (m+16) k)&&aFR m r
def aG0(P:Program):St->Nat->Option Nat->Option (Nat×Bool)->I->(Rec->St->Prop)->Prop
 | ⟨ssl,sso,snx⟩,m,d,g,i,K=>
 cZ (gsl g++aOZ i) λrds=>rP (look ssl rds) λSL=>rQ SL g λch gc=>cZ (tU i SL sso) λT=>dH (iK sso T) λSO=>cZ (gsl g++chs SL) λG=>
  dJ P SL SO m ch gc i λv S1 n1=>nN v λv=>dH S1 λS1=>cZ (wrI SL T m n1 i) λW=>cZ (W++aGY m S1) λids=>
   (aCK T m S1&&(qN d G&&(aFN (m+16) ids&&(aIE W T&&(aIE (chT ch) G&&(aFR m T&&Nat.ble n1 (m+16)))))))=true/\aE2 SO S1 W
   (aBH ssl d ⟨ch,gc,v⟩ λsl=>dH (aBD sso S1 ids) λso=>K ⟨m,rds++G,chT ch,d,⟨ch,gc,v⟩,T,ids,S1⟩ ⟨sl,so,snx⟩) T
def nK(P:Program):List iQ->List Nat->St->(List Rec->St->Prop)->Prop
 | [],[],st,K=>K [] st
 | ⟨d,g,i⟩::r,m::ms,st,K=>aG0 P st m d g i λrc st'=>nK P r ms st' λrs st''=>K (rc::rs) st''
 |_,_,_,_=>False
def indep(r r':Rec):Bool:= qN r.d r'.rd&&(qN r'.d r.rd&&((match r.d,r'.d with |some a,some b=> !Nat.beq a b |_,_=>true)&&(aIQ r.ids r'.T&&(aIQ r.ids r'.ids&&(aIQ r'.ids r.T&&aFR r.m r'.ids)))))
def aEW(r:Rec)(i:Nat):List Rec->List (List Nat)->Bool
 |r'::rs,a::an=>(bif iS i a then qN r'.d r.cs else indep r r')&&aEW r i rs an
 |_,_=>true
def nJ:List Rec->List (List Nat)->Nat->Bool
 |r::rs,_::an,i=>aEW r i rs an&&nJ rs an (i+1)
 |_,_,_=>true
theorem aG9 {d:Nat} {l:List Nat} (h:(!iS d l)=true):d∉l:=λe=>by rw [gR.2 e] at h;simp at h
theorem nX {d:Option Nat} {l:List Nat} (h:qN d l=true):∀x∈l,d≠some x:=by intro x f e;subst e;exact aG9 h f
theorem aA0 {n:Nat} :∀ {l:List Nat},aFN n l=true->∀k∈l,k<n
 | [],_,k,h=>by simp at h
 |a::r,h,k,e=>by
  simp only [aFN,zF] at h;rcases List.mem_cons.1 e with rfl |e
  ·exact zC h.1
  ·exact aA0 h.2 k e
theorem nB:∀ {l l':List Nat},aIE l l'=true->∀k∈l,k∈l'
 | [],_,_,k,h=>by simp at h
 |a::r,l',h,k,e=>by
  simp only [aIE,zF] at h;rcases List.mem_cons.1 e with rfl |e
  ·exact gR.1 h.1
  ·exact nB h.2 k e
theorem rL:∀ {l l':List Nat},aIQ l l'=true->∀k∈l,k∉l'
 | [],_,_,k,h=>by simp at h
 |a::r,l',h,k,e=>by
  simp only [aIQ,zF] at h;rcases List.mem_cons.1 e with rfl |e
  ·exact aG9 h.1
  ·exact rL h.2 k e
theorem aA2 {m:Nat} :∀ {l:List Nat},aFR m l=true->∀k∈l,¬(m<=k/\k<m+16)
 | [],_,k,h=>by simp at h
 |a::r,h,k,e=>by
  simp only [aFR,zF,zN] at h;rcases List.mem_cons.1 e with rfl |e
  ·rcases h.1 with h |h
   ·have :=zC h;omega
   ·have :=zC h;omega
  ·exact aA2 h.2 k e
theorem oR {T:List Nat} {m:Nat} :∀ {S:aD},aCK T m S=true->∀k o,S.get k=some o->k∈T\/(m<=k/\k<m+16)
 | [],_,k,o,h=>by simp [aD.get] at h
 | (j,p)::r,h,k,o,e=>by
   simp only [aCK,zF,zN] at h;simp only [aD.get] at e;split at e
   ·rename_i f;subst f;rcases h.1 with h | ⟨h1,h2⟩
    ·exact .inl (gR.1 h)
    ·exact .inr ⟨zC h1,zC h2⟩
   ·exact oR h.2 k o e
theorem qM {m:Nat} :∀ {S:aD} {k:Nat},k∈aGY m S↔m<=k/\∃o,S.get k=some o
 | [],k=>by simp [aGY,aD.get]
 | (j,p)::r,k=>by
   simp only [aGY,aD.get];split
   ·rename_i e;have :=zC e;rw [List.mem_cons,qM]
    by_cases h:k=j
    ·subst h;simp [this]
    ·simp [h]
   ·rename_i e;rw [qM]
    by_cases h:k=j
    ·subst h;have :¬m<=k:=λf=>by rw [Nat.ble_eq_true_of_le f] at e;cases e
     simp [this]
    ·simp [h]
theorem aAI {j S1:aD} {W:List Nat} :∀ {T:List Nat},aJS j S1 W T->∀k∈T,k∉W->S1.get k=j.get k
 | [],_,k,h,_=>by simp at h
 |a::r,h,k,e,f=>by
  simp only [aJS] at h;split at h
  ·rename_i m;rcases List.mem_cons.1 e with rfl |e
   ·exact absurd (gR.1 m) f
   ·exact aAI h k e f
  ·rcases List.mem_cons.1 e with rfl |e
   ·exact h.1
   ·exact aAI h.2 k e f
theorem aB5 {x:Nat×Bool} :∀ {l:List (Nat×Bool)},x∈l->x.1∈chT l
 | (g,b)::r,h=>by
   rcases List.mem_cons.1 h with rfl |h
   ·simp [chT]
   ·exact zD _ (aB5 h)
theorem aS9 {p:Nat×SV} :∀ {l:aY},p∈l->∀x∈p.2.ch,x.1∈chs l
 | (d,s)::r,h,x,e=>by
   simp only [chs,List.mem_append];rcases List.mem_cons.1 h with rfl |h
   ·exact .inl (aB5 e)
   ·exact .inr (aS9 h x e)
structure aI5 [pS](U:Nat->Prop)(N:Nat)(σ:Sg)(gs:Nat->Option SV)(S:aD)(n:Nat)(act:Act)(w:World):Prop where
 rel:aU U σ S w n
 sz:act.tmps.size=N
 df:act.defers=pS.ds
 sl:∀d s,gs d=some s->vV (Own U σ S) w σ act.tmps s (act.tmps.getD d undef)
theorem aXX {l:aY} {d:Nat} {s:SV} :∀t,eC (aEO l d s) t=if t=d then some s else eC l t:=by
 have f:∀(l:aY) (t:Nat),t≠d->eC (aI8 l d) t=eC l t:=by
  intro l t e
  induction l with
  |nil=>rfl
  |cons p r m=>
   obtain⟨j,q⟩:=p;simp only [aI8,eC];split
   ·rename_i h;subst h;rw [if_neg e];exact m
   ·simp only [eC,m]
 induction l with
 |nil=>intro t;simp only [aEO,eC]
 |cons p r m=>
  obtain⟨j,q⟩:=p;intro t;simp only [aEO];split
  ·rename_i h;subst h;simp only [eC]
   by_cases e:t=d
   ·simp [e]
   ·rw [if_neg e,if_neg e,if_neg e];exact f r t e
  ·rename_i h;simp only [eC,m]
   by_cases e:t=j
   ·subst e;rw [if_pos rfl,if_pos rfl,if_neg (Ne.symm h)]
   ·rw [if_neg e,if_neg e]
theorem aNC {l:aY} {d:Option Nat} {s:SV} (t:Nat):eC (sV l d s) t=if d=some t then some s else eC l t:=by
 cases d with
 |none=>simp [sV]
 |some d=>
  simp only [sV,aXX,zse]
  by_cases h:t=d
  ·rw [if_pos h,if_pos h.symm]
  ·rw [if_neg h,if_neg (Ne.symm h)]
def Loc [pS](P:Program)(N:Nat)(n:Nat)(ops:Array Oper)(o:Oper)(r:Rec)(SL:aY)(SO:aD):Prop:=
 ∀(U:Nat->Prop) (σ:Sg) (gs:Nat->Option SV) (S:aD) (act:Act) (w:World) (next:Act->World->Prop) (Q:Exit->Act->World->Prop),aI5 U N σ gs S n act w->(∀d s,(d,s)∈SL->gs d=some s)->iK S r.T=SO->
  (∀i,i<16->S.get (r.m+i)=none/\σ (r.m+i)=none)->(∀t s,gs t=some s->∀x∈s.ch,r.d≠some x.1)->
  (∀σ' cv w',aI5 U N σ' (λt=>if r.d=some t then some r.s else gs t) (aBD S r.S1 r.ids) n (act.put r.d cv) w'->bM σ S w n σ' (aBD S r.S1 r.ids) w' n->(∀k,¬(r.m<=k/\k<r.m+16)->σ' k=σ k)->next (act.put r.d cv) w')->
  if Region.wanted o (yielded ops act.tmps) then o.wp P act w next Q else next (act.put o.dst undef) w
structure aRF(r:Rec)(m0:Nat):Prop where
 m:r.m=m0
 ids:∀k∈r.ids,k<m0+16
 ids':∀k∈r.ids,k∈r.T\/(m0<=k/\k<m0+16)
 cs:∀x∈r.s.ch,x.1∈r.cs/\x.1∈r.rd
section
variable {P:Program} {N n:Nat}
theorem aUL [pS] {st:St} {m:Nat} {d:Option Nat} {g:Option (Nat×Bool)} {i:I} {K:Rec->St->Prop} (h:aG0 P st m d g i K) {ops:Array Oper} {o:Oper} (hi:aVN P o.op=some i)(hg:aVM ops N o.guard=some g)(hd:aVL N o.dst=some d)(hn:m+16<=n):
 ∃r,K r ⟨sV st.sl r.d r.s,aBD st.so r.S1 r.ids,st.nx⟩/\r.d=d/\aRF r m/\∃z,(∀d s,(d,s)∈z->d∈r.rd/\eC st.sl d=some s)/\Loc P N n ops o r z (iK st.so r.T):=by
 obtain⟨ssl,j,ay⟩:=st;simp only [aG0,fT,nM,mW] at h;simp only;obtain⟨z,ah⟩:∃z,z=look ssl (gsl g++aOZ i):=⟨_,rfl⟩;rw [<-ah] at h;split at h
 ·exact h.elim
 ·rename_i ch gc am;obtain⟨SO,ai⟩:∃SO,SO=iK j (tU i z j):=⟨_,rfl⟩;simp only [eH] at h;rw [<-ai] at h;obtain⟨v,S1,n1,h1,h2⟩:=aNK (st:=⟨z,SO,m⟩) h;simp only [iR,eH,fT,qT,zF] at h1;obtain⟨⟨k1,k2,k3,k4,k5,k6,k7⟩,au⟩:=h1;obtain⟨af,hK⟩:=sF au;have ax:=zC k7;refine⟨_,hK,rfl,⟨rfl,aA0 k3,λk f=>?_,λx W=>⟨aB5 W,zP _ (nB k5 _ (aB5 W))⟩⟩,z,λd s J=>?_,?_⟩
  ·rcases List.mem_append.1 f with f |f
   ·exact .inl (nB k4 k f)
   ·obtain⟨ao,o,ho⟩:=qM.1 f;exact oR k1 k o ho
  ·subst ah;exact⟨List.mem_append_left _ (mC J).1,(mC J).2⟩
  ·
   rw [<-ai];intro U σ gs S act w next Q hrel av D C aj M;have O:=hrel.rel.part (tU i z j);simp only at D C aj M;rw [D] at O
   have ad:bH (Uf U σ S (tU i z j)) N σ ⟨z,SO,n⟩ act w:=by
    refine⟨O,hrel.sz,hrel.df,λt s J=>?_⟩;have :=hrel.sl t s (av t s J);have aa:∀ {x v},VR (Own U σ S) w σ x v->VR (Own (Uf U σ S (tU i z j)) σ SO) w σ x v:=λh=>h.mono (cB.refl _ _) (λb _ hb=>aPE (T:=tU i z j) (by rw [D];exact hb)) λ_ _=>rfl;unfold vV at this⊢;split
    ·rename_i hc;rw [hc] at this;exact aa this
    ·rename_i gg r hc;rw [hc] at this;exact⟨this.1,λhh=>⟨(this.2.1 hh).1,aa (this.2.1 hh).2⟩,this.2.2⟩
   have ar:∀x∈ch,x.1∈gsl g++chs z:=λx W=>nB k5 _ (aB5 W);refine aB2 (P:=P) ad (m:=m) (show m<=n by omega) (λi hi=>⟨?_,(C i hi).2⟩) hi hg hd am (G:=gsl g++chs z) (λd s J x W=>zP _ (aS9 J x W)) (λd' Y J=>nX k2 d' J Y) ar h2 ?_
   ·rw [<-D,kC,(C i hi).1];simp
   ·rintro σ' v' E Z cv w' ⟨rfl,rfl,rfl⟩ aw H gr-hσ;have aq:max n Z=n:=by omega
    simp only at H gr;rw [aq] at H gr
    have hR:∀k,k∈(wrI z (tU i z j) m Z i++aGY m E)->k∈tU i z j\/(m<=k/\k<m+16):=λk f=>by
     rcases List.mem_append.1 f with f |f
     ·exact .inl (nB k4 k f)
     ·obtain⟨ao,o,ho⟩:=qM.1 f;exact oR k1 k o ho
    have hw:=hrel.rel.whole (T:=tU i z j) (σ':=σ') (S1:=E) (S2:=aBD S E (wrI z (tU i z j) m Z i++aGY m E)) (w':=w') (R:=λk=>k∈tU i z j\/(m<=k/\k<m+16)) (λk f=>.inl f)
     (λk f hn=>by
      rcases f with f |f
      ·exact absurd f hn
      ·have :=(C (k-m) (by omega)).1;rwa [show m+(k-m)=k by omega] at this)
     (λk f=>by
      rw [nZ];split
      ·rfl
      ·rename_i ac;simp only [List.mem_append,not_or] at ac
       by_cases hT:k∈tU i z j
       ·rw [aAI af k hT ac.1,<-D,kC,if_pos hT]
       ·rcases f with f |f
        ·exact absurd f hT
        ·have h0:=(C (k-m) (by omega)).1;rw [show m+(k-m)=k by omega] at h0;rw [h0]
         cases ae:E.get k with
         |none=>rfl
         |some o=>exact absurd (qM.2 ⟨f.1,o,ae⟩) ac.2)
     (λk f=>by
      refine⟨by rw [nZ,if_neg λJ=>f (hR k J)],?_,?_⟩
      ·simp only [not_or] at f;exact hσ k f.2
      ·cases ae:E.get k with
       |none=>rfl
       |some o=>exact absurd (oR k1 k o ae) f)
     (by rw [D];exact gr) H.rel
    obtain⟨g2,r2,o2⟩:=hw;refine M σ' cv w' ⟨r2,H.sz,H.df,λt s ht=>?_⟩ g2 hσ
    have ak:∀d',d=some d'->d'<N:=λd' Y=>by
     unfold aVL at hd;split at hd
     ·obtain rfl:=zsi hd;cases Y
     ·split at hd
      ·rename_i ap;obtain rfl:=zsi hd;obtain rfl:=zsi Y;exact ap
      ·cases hd
    split at ht
    ·rename_i ag;obtain rfl:=zsi ht;have J:(t,(⟨ch,gc,v'⟩:SV))∈sV z d ⟨ch,gc,v'⟩:=by rw [ag];exact gQ (by rw [aNC,if_pos rfl])
     have :=H.sl t _ J;have ab:∀ {x v},VR (Own (Uf U σ S (tU i z j)) σ' E) w' σ' x v->VR (Own U σ' (aBD S E (wrI z (tU i z j) m Z i++aGY m E))) w' σ' x v:=λh=>h.mono (cB.refl _ _) (λb _ hb=>o2 b hb) λ_ _=>rfl;unfold vV at this⊢;split
     ·rename_i hc;rw [hc] at this;exact ab this
     ·rename_i gg r hc;rw [hc] at this;exact⟨this.1,λhh=>⟨(this.2.1 hh).1,ab (this.2.1 hh).2⟩,this.2.2⟩
    ·rename_i ag;have B:=hrel.sl t s ht
     have al:(act.put d cv).tmps.getD t undef=act.tmps.getD t undef:=by
      cases d with
      |none=>rfl
      |some d=>rw [mF (by rw [hrel.sz];exact ak d rfl),if_neg (λe=>ag (by rw [e]))]
     have F:∀x∈s.ch,(holds (act.put d cv).tmps x↔holds act.tmps x):=λx W=>by
      have :=aj t s ht x W
      cases d with
      |none=>exact Iff.rfl
      |some d=> unfold holds;rw [mF (by rw [hrel.sz];exact ak d rfl),if_neg (λe=>this (by rw [e]))]
     rw [al];unfold vV at B⊢;split
     ·rename_i hc;rw [hc] at B;exact B.grow g2
     ·rename_i gg r hc;rw [hc] at B F;exact⟨λhh=>B.1 ((F gg (by simp)).1 hh),λhh=>⟨λx W=>(F x W).2 ((B.2.1 hh).1 x W),(B.2.1 hh).2.grow g2⟩,B.2.2⟩
end
end Go.Sk
