/- Caches. -/
import Derived.Test.YtmhapcbjjpadnaaGreatK3o
import Derived.Deep.LoopGhost
import Derived.Orders
set_option linter.all false
open Array renaming getD_eq_getD_getElem?→zK,getElem?_map→zS
open Bool renaming and_eq_true→zF,or_eq_true→zN
open List renaming mem_cons_of_mem→zD,getElem?_cons_zero→zE,mem_of_getElem?→zG,getElem?_eq_getElem→zL,getElem?_eq_none→zO,mem_append_right→zP,mem_singleton→zR,getElem?_map→zT
open Nat renaming le_of_ble_eq_true→zC,ne_of_beq_eq_false→zH,eq_of_beq_eq_true→zI,le_refl→zJ,sub_zero→zM,zero_le→zQ
open Option renaming map_eq_some_iff→zA
namespace Go.Sk
open Go Go.RowKit
variable [gD]
class pI where
 ds:List Deferred
structure SV where
 ch:List (Nat×Bool)
 gc:Bool
 v:V
abbrev aW:=List (Nat×SV)
def dY:aW->Nat->Option SV
 | [],_=>none
 | (j,s)::r,d=>if d=j then some s else dY r d
def aH5:aW->Nat->aW
 | [],_=> []
 | (j,s)::r,d=>if d=j then aH5 r d else(j,s)::aH5 r d
def aDK:aW->Nat->SV->aW
 | [],d,s=> [(d,s)]
 | (j,q)::r,d,s=>if d=j then(d,s)::aH5 r d else(j,q)::aDK r d s
def rV(l:aW):Option Nat->SV->aW
 |some d,s=>aDK l d s
 |none,_=>l
theorem gK:∀ {l:aW} {d:Nat} {s:SV},dY l d=some s->(d,s)∈l
 | [],_,_,h=>by simp [dY] at h
 | (j,q)::r,d,s,h=>by
   simp only [dY] at h;split at h
   ·rename_i e;obtain rfl:=zsi h;subst e;simp
   ·exact zD _ (gK h)
theorem aFS:∀ {l:aW} {d:Nat} {p:Nat×SV},p∈aH5 l d->p.1≠d/\p∈l
 | [],_,_,h=>by simp [aH5] at h
 | (j,q)::r,d,p,h=>by
   simp only [aH5] at h;split at h
   ·have :=aFS h;exact⟨this.1,zD _ this.2⟩
   ·rename_i e;rcases List.mem_cons.1 h with rfl |h
    ·exact⟨Ne.symm e,by simp⟩
    ·have :=aFS h;exact⟨this.1,zD _ this.2⟩
theorem pY:∀ {l:aW} {d:Nat} {s:SV} {p:Nat×SV},p∈aDK l d s->p=(d,s)\/(p.1≠d/\p∈l)
 | [],d,s,p,h=>by simp only [aDK,zR] at h;exact .inl h
 | (j,q)::r,d,s,p,h=>by
   simp only [aDK] at h;split at h
   ·rcases List.mem_cons.1 h with rfl |h
    ·exact .inl rfl
    ·have :=aFS h;exact .inr ⟨this.1,zD _ this.2⟩
   ·rename_i e;rcases List.mem_cons.1 h with rfl |h
    ·exact .inr ⟨Ne.symm e,by simp⟩
    ·rcases pY h with h |h
     ·exact .inl h
     ·exact .inr ⟨h.1,zD _ h.2⟩
structure St where
 sl:aW
 so:aD
 nx:Nat
def aWB(g:Nat×Bool):List (Nat×Bool)->Bool
 | []=>false
 |h::t=>(g.1==h.1&&g.2==h.2)||aWB g t
theorem aM2 {g:Nat×Bool} :∀ {l:List (Nat×Bool)},aWB g l=true->g∈l
 | [],h=>by simp [aWB] at h
 |a::t,h=>by
  simp only [aWB,zN,zF,zbe] at h;rcases h with ⟨e,h2⟩|h
  ·have :g=a:=Prod.ext e h2;simp [this]
  ·exact zD _ (aM2 h)
def bM(sl:aW)(ch:List (Nat×Bool)):A->V
 | .c v=>v
 | .t n=>match dY sl n with
   |some s=>match s.ch with
    | []=>s.v
    |g::_=>if aWB g ch then s.v else .any
   |none=>.any
def guardOf(sl:aW):Option (Nat×Bool)->Option (List (Nat×Bool)×Bool)
 |none=>some ([],true)
 |some (gd,b)=>match dY sl gd with
  |some s=>match s.v with
   | .bool x=>some ((gd,b)::s.ch,match s.ch with
     | []=>(if b then x else !x)
     |_::_=>s.gc&&(if b then x else !x))
   | .any=>match s.ch,s.gc with
     |_::_,false=>some ((gd,b)::s.ch,false)
     |_,_=>none
   |_=>none
  |none=>none
structure iM where
 d:Option Nat
 g:Option (Nat×Bool)
 i:I
def rI(P:Program)(f:FuncId)(args:List V)(S:aD)(gc:Bool)(K:V->Prop):Prop:= ∃res,(gc=true->(∀v∈args,oK S v)/\aN P f [] (args.map (pur S)) res [])/\(args.all aIB=true\/aC6 res=true)/\K res
inductive mB(A B C D:Prop):Prop where
 |inl (h:A)
 |inr (h:B)
 |frz (h:C)
 |mov (h:D)
def iY(P:Program)(f:FuncId):Prop:=∃fn,P.funcs[f]? =some fn∧fn.body.isSome=true∧(fn.name== "runtime.NumGoroutine")=false
def lX(ssl:aW)(sso:aD)(snx:Nat)(ch:List (Nat×Bool))(gc:Bool)(i:I)(K:V->aD->Nat->Prop):Prop:=
 match ch with
 | []=>oR sso snx i (bM ssl []) K
 |g::r=>(gc=true->oR sso snx i (bM ssl (g::r)) K)/\(gc=false->K .any sso snx)
def dG(P:Program)(ssl:aW)(sso:aD)(snx:Nat)(ch:List (Nat×Bool))(gc:Bool)(i:I)(K:V->aD->Nat->Prop):Prop:=
 match i with
 | .pick (.t tc) a b=>match bM ssl ch (.t tc) with
   | .bool x=>match bM ssl ((tc,true)::ch) a,bM ssl ((tc,false)::ch) b with
     | .bool p,.bool q=>K (.bool (bif x then p else q)) sso snx
     |u,v=>match x with
      |true=>K u sso snx
      |false=>K v sso snx
   |_=>gc=false/\K .any sso snx
 | .build z ps=>match aCG z (ps.map λp=>(p.1,p.2.1,bM ssl ch p.2.2)) with
   |some cs=>z.all oZ=true/\K (.agg cs) sso snx
   |none=>False
 | .call f xs=>mB (rI P f (xs.map (bM ssl ch)) sso gc λv=>K v sso snx) ((gc=true->pH P f (xs.map (bM ssl ch)) sso snx K)/\(gc=false->K .any sso snx)) ((gc=true->qT P f (xs.map (bM ssl ch)) sso snx K)/\(gc=false->K .any sso snx)) ((gc=true->rC P f (xs.map (bM ssl ch)) sso snx K)/\(gc=false->K .any sso snx))
 | .vcall x xs=>match bM ssl ch x with
   | .fn f caps=>iY P f/\mB (rI P f (xs.map (bM ssl ch)++caps) sso gc λv=>K v sso snx) ((gc=true->pH P f (xs.map (bM ssl ch)++caps) sso snx K)/\(gc=false->K .any sso snx)) ((gc=true->qT P f (xs.map (bM ssl ch)++caps) sso snx K)/\(gc=false->K .any sso snx)) ((gc=true->rC P f (xs.map (bM ssl ch)++caps) sso snx K)/\(gc=false->K .any sso snx))
   |_=>gc=false/\K .any sso snx
 | .clr es z x=>lX ssl sso snx ch gc (.clr es z x) K
 | .alloc z=>lX ssl sso snx ch gc (.alloc z) K
 | .box x=>lX ssl sso snx ch gc (.box x) K
 | .st m x y=>lX ssl sso snx ch gc (.st m x y) K
 | .mkmap ks=>lX ssl sso snx ch gc (.mkmap ks) K
 | .s2b x=>lX ssl sso snx ch gc (.s2b x) K
 | .aslc n x h=>lX ssl sso snx ch gc (.aslc n x h) K
 | .cpys x y=>lX ssl sso snx ch gc (.cpys x y) K
 | .mput x i y=>lX ssl sso snx ch gc (.mput x i y) K
 | .mputp x i y=>lX ssl sso snx ch gc (.mputp x i y) K
 | .bslice es z m ps=>lX ssl sso snx ch gc (.bslice es z m ps) K
 | .mk es by_ z l c=>lX ssl sso snx ch gc (.mk es by_ z l c) K
 | .app es by_ x y=>lX ssl sso snx ch gc (.app es by_ x y) K
 | .cpy es x y=>lX ssl sso snx ch gc (.cpy es x y) K
 |i=>gF sso i (bM ssl ch) gc λv=>K v sso snx
def mV(P:Program)(st:St)(ch:List (Nat×Bool))(gc:Bool)(i:I)(K:V->aD->Nat->Prop):Prop:=dG P st.sl st.so st.nx ch gc i K
def rG(P:Program):List iM->St->(St->Prop)->Prop
 | [],st,K=>K st
 | ⟨d,g,i⟩::r,st,K=>match guardOf st.sl g with
   |some (ch,gc)=>mV P st ch gc i λv S n=>rG P r ⟨rV st.sl d ⟨ch,gc,v⟩,S,n⟩ K
   |none=>False
def aK5(P:Program):Op->Option I
 | .call { callee:=.value (.func f),args,.. } =>match P.funcs[f]? with
   |some fn=>if fn.body.isSome=true∧(fn.name== "runtime.NumGoroutine")=false then(args.toList.mapM bF).map (.call f) else none
   |none=>none
 | .call { callee:=.value (.tmp t),args,.. } =>(args.toList.mapM bF).map (.vcall (.t t))
 |_=>none
def aGD(P:Program)(o:Op):Option I:=
 match aK5 P o with
 |some i=>some i
 |none=>some .bad
def aU4(P:Program)(o:Op):Option I:=
 match aGE P o with
 |some i=>some i
 |none=>match bI8 P o with
  |some (z,ps)=>some (.build z ps)
  |none=>match aYH P o with
   |some i=>some i
   |none=>aGD P o
def aU3(ops:Array Oper)(N:Nat):Option (Nat×Bool)->Option (Option (Nat×Bool))
 |none=>some none
 |some (j,b)=>match(ops[j]?).bind (·.dst) with
  |some d=>if d<N then some (some (d,b)) else none
  |none=>none
def aU2(N:Nat):Option Nat->Option (Option Nat)
 |none=>some none
 |some d=>if d<N then some (some d) else none
def cJ(P:Program)(ops:Array Oper)(N:Nat):List Oper->Option (List iM)
 | []=>some []
 |o::r=>match aU4 P o.op,aU3 ops N o.guard,aU2 N o.dst,cJ P ops N r with
  |some i,some g,some d,some l=>some (⟨d,g,i⟩::l)
  |_,_,_,_=>none
def jX:List Nat->List iM->Bool
 |_,[]=>true
 |G,i::r=>(match i.d with |some d=> !G.contains d |none=>true)&&(match i.g with |some (gd,_)=>(i.d != some gd)&&jX (gd::G) r |none=>jX G r)
def holds(tmps:Array Value)(g:Nat×Bool):Prop:=tmps.getD g.1 undef=.bool g.2
def uT(O:Nat->Prop)(w:World)(σ:Sg)(tmps:Array Value)(s:SV)(cv:Value):Prop:=
 match s.ch with
 | []=>VR O w σ s.v cv
 |g::r=>(holds tmps g->s.gc=true)/\(s.gc=true->(∀h∈g::r,holds tmps h)/\VR O w σ s.v cv)/\(s.gc=false->cv=undef)
structure bE [pI](U:Nat->Prop)(N:Nat)(σ:Sg)(st:St)(act:Act)(w:World):Prop where
 rel:aP U σ st.so w st.nx
 sz:act.tmps.size=N
 df:act.defers=pI.ds
 sl:∀d s,(d,s)∈st.sl->uT (Own U σ st.so) w σ act.tmps s (act.tmps.getD d undef)
def GIn(sl:aW)(G:List Nat):Prop:=∀d s,(d,s)∈sl->∀g∈s.ch,g.1∈G
section
variable {P:Program} {U:Nat->Prop} {N:Nat} {σ:Sg} {st:St} {act:Act} {w:World}
theorem gP [pI](h:bE U N σ st act w) {ch:List (Nat×Bool)} (m:∀g∈ch,holds act.tmps g) {x:Operand} {a:A} (e:bF x=some a):VR (Own U σ st.so) w σ (bM st.sl ch a) (act.eval x):=by
 cases x with
 |tmp t=>
  simp only [bF,zse] at e;subst e;simp only [bM,Act.eval];split
  ·rename_i s B;have :=h.sl t s (gK B);unfold uT at this;split
   ·rename_i j;rw [j] at this;exact this
   ·rename_i g r j;rw [j] at this;split
    ·rename_i hg;exact(this.2.1 (this.1 (m g (aM2 hg)))).2
    ·exact .any _
  ·exact .any _
 |const v=> simp only [bF,zA] at e;obtain⟨y,C,rfl⟩:=e;exact aPM C _ _ _
 |func f=> simp only [bF,zse] at e;subst e;exact .fn rfl (by simp)
 |global g=> simp only [bF,zA] at e;obtain⟨z,hg,rfl⟩:=e;exact(h.rel.gl g z hg).lift σ
theorem aSV {op:BinOp} {k:IntKind} {a b:Int} {e:Bool} {K:V->Prop} (h:aDE op k a b e K):∃v,K v:=by
 cases op <;> simp only [aDE] at h <;> first |exact⟨_,h⟩|exact⟨_,h.2⟩
theorem aY2 {S:aD} {i:I} {e:A->V} {f:Bool} {K:V->Prop} (h:gF S i e f K):∃v,K v:=by
 unfold gF at h
 repeat' (first |split at h)
 all_goals first
  |exact h.elim
  |exact aSV h.2
  | (obtain⟨r,j,-⟩:=sN h;exact⟨_,j⟩)
  |exact⟨_,h⟩
  |exact⟨_,h.2⟩
  |exact⟨_,h.2.2⟩
theorem lT {a:Act} {d t:Nat} {v:Value} (e:d<a.tmps.size):(a.put (some d) v).tmps.getD t undef=if t=d then v else a.tmps.getD t undef:=by
 simp only [Act.put,zK]
 by_cases h:t=d
 ·subst h;rw [if_pos rfl,Array.getElem?_setIfInBounds_self_of_lt e];rfl
 ·rw [if_neg h,Array.getElem?_setIfInBounds_ne (Ne.symm h)]
theorem bE.put [pI](h:bE U N σ st act w) {G:List Nat} (hG:GIn st.sl G) {σ':Sg} {S':aD} {w':World} {n':Nat} (g:bJ σ st.so w st.nx σ' S' w' n')(hR':aP U σ' S' w' n')
 {d:Option Nat} (hd:∀d',d=some d'->d'<N/\d'∉G) {s:SV} {cv:Value} (hs:∀tmps',(∀g,g.1∈G->(holds tmps' g↔holds act.tmps g))->uT (Own U σ' S') w' σ' tmps' s cv):
 bE U N σ' ⟨rV st.sl d s,S',n'⟩ (act.put d cv) w' where
 rel:=hR'
 sz:=by cases d <;> simp [Act.put,h.sz]
 df:=by cases d <;> simp [Act.put,h.df]
 sl:=λt q hq=>by
  have hkeep:∀g:Nat×Bool,g.1∈G->(holds (act.put d cv).tmps g↔holds act.tmps g):=λg hg=>by
   cases d with
   |none=>exact Iff.rfl
   |some d=> obtain⟨h1,h2⟩:=hd d rfl;unfold holds;rw [lT (by rw [h.sz];exact h1),if_neg (λ(e:g.1=d)=>h2 (e▸hg))]
  have old:(t,q)∈st.sl->(∀d',d=some d'->t≠d')->uT (Own U σ' S') w' σ' (act.put d cv).tmps q ((act.put d cv).tmps.getD t undef):=λhm hne=>by
   have hold:=h.sl t q hm
   have hval:(act.put d cv).tmps.getD t undef=act.tmps.getD t undef:=by
    cases d with
    |none=>rfl
    |some d=>rw [lT (by rw [h.sz];exact(hd d rfl).1),if_neg (hne d rfl)]
   rw [hval];unfold uT at hold⊢;have hgq:=hG t q hm;split
   ·rename_i hc;rw [hc] at hold;exact hold.grow g
   ·rename_i gg r hc;rw [hc] at hold hgq;refine⟨λhh=>hold.1 ((hkeep gg (hgq gg (by simp))).1 hh),λhh=>⟨λx hx=>(hkeep x (hgq x hx)).2 ((hold.2.1 hh).1 x hx),(hold.2.1 hh).2.grow g⟩,hold.2.2⟩
  cases d with
  |none=>exact old hq λd' hd'=>by cases hd'
  |some d=>
   rcases pY hq with hq | ⟨hne,hm⟩
   ·obtain⟨rfl,rfl⟩:=Prod.mk.inj hq;rw [lT (by rw [h.sz];exact(hd _ rfl).1),if_pos rfl];exact hs _ hkeep
   ·exact old hm λd' hd'=>by obtain rfl:=zsi hd';exact hne
theorem GIn.put {sl:aW} {G:List Nat} (f:GIn sl G) {d:Option Nat} {s:SV} (m:∀g∈s.ch,g.1∈G):GIn (rV sl d s) G:=by
 intro t q e
 cases d with
 |none=>exact f t q e
 |some d=>
  rcases pY e with e | ⟨-,j⟩
  ·obtain⟨rfl,rfl⟩:=Prod.mk.inj e;exact m
  ·exact f t q j
theorem rM {ops:Array Oper} {o:Oper} {g:Option (Nat×Bool)} (hg:aU3 ops N o.guard=some g)(z:act.tmps.size=N):
 Region.wanted o (yielded ops act.tmps)=true↔∀x,g=some x->holds act.tmps x:=by
 unfold Region.wanted
 cases B:o.guard with
 |none=>rw [B] at hg;simp only [aU3,zse] at hg;subst hg;simp
 |some F=>
  obtain⟨j,b⟩:=F;rw [B] at hg;simp only [aU3] at hg;split at hg
  ·rename_i d E;split at hg
   ·rename_i m;simp only [zse] at hg;subst hg;have f:d<act.tmps.size:=by rw [z];exact m
    have e:act.tmps[d]? =some (act.tmps.getD d undef):=by rw [zK,Array.getElem?_eq_getElem f];rfl
    simp only [yielded,E,Option.bind_some,e,holds,zse,forall_eq'];constructor
    ·intro h;split at h
     ·rename_i C D;obtain rfl:C=b:=by simpa using h
      exact zsi D
     ·simp at h
    ·intro h;rw [h];simp
   ·cases hg
  ·cases hg
theorem aA8 [pI](h:bE U N σ st act w) {g:Option (Nat×Bool)} {ch:List (Nat×Bool)} {D:Bool} (hg:guardOf st.sl g=some (ch,D)):
 (ch=[]->D=true/\g=none)/\((∀x,g=some x->holds act.tmps x)->D=true)/\(D=true->∀x∈ch,holds act.tmps x)/\(∀x,g=some x->∃r,ch=x::r):=by
 cases g with
 |none=> simp only [guardOf,zse,Prod.mk.injEq] at hg;obtain⟨rfl,rfl⟩:=hg;simp
 |some F=>
  obtain⟨B,b⟩:=F;simp only [guardOf] at hg;split at hg
  ·rename_i s G;have e:=h.sl B s (gK G);unfold uT at e;split at hg
   ·rename_i x H;simp only [zse,Prod.mk.injEq] at hg;obtain⟨rfl,rfl⟩:=hg;rw [H] at e;refine⟨by simp,λz=>?_,λz y f=>?_,λy f=>⟨s.ch,by rw [<-zsi f]⟩⟩
    ·have C:act.tmps.getD B undef=.bool b:=z _ rfl;split
     ·rename_i j;rw [j] at e;simp only at e;rw [C] at e;cases e
      cases b <;> rfl
     ·rename_i q r j;rw [j] at e;simp only at e
      cases m:s.gc with
      |false=>have :=e.2.2 m;rw [C] at this;cases this
      |true=>
       have :=(e.2.1 m).2;rw [C] at this;cases this
       cases b <;> rfl
    ·split at z
     ·rename_i j;rw [j] at e f;simp only at e;simp only [zR] at f;subst f;generalize E:act.tmps.getD B undef=v at e;cases e
      unfold holds;rw [E];cases b <;> cases x <;> simp_all
     ·rename_i q r j;rw [j] at e f;simp only at e;simp only [zF] at z;obtain⟨k1,k2⟩:=e.2.1 z.1;rcases List.mem_cons.1 f with rfl |f
      ·generalize E:act.tmps.getD B undef=v at k2;cases k2
       unfold holds;rw [E];have :=z.2;cases b <;> cases x <;> simp_all
      ·exact k1 y f
   ·split at hg
    ·rename_i q r j m;simp only [zse,Prod.mk.injEq] at hg;obtain⟨rfl,rfl⟩:=hg;rw [j] at e;simp only at e;refine⟨by simp,λz=>?_,(λz=>by cases z),λy f=>⟨s.ch,by rw [<-zsi f]⟩⟩
     have C:act.tmps.getD B undef=.bool b:=z _ rfl;have :=e.2.2 m;rw [C] at this;cases this
    ·cases hg
   ·cases hg
  ·cases hg
theorem aUF {ρ:Operand→Value} {f:FuncId} {fn:Func} {args:Array Operand} {E:Array TypeId} (B:P.funcs[f]? =some fn)(m:fn.body.isSome=true)(z:(fn.name== "runtime.NumGoroutine")=false)
 (o:Oper) (C:o.op=.call { callee:=.value (.func f),args,argTypes:=E }) (D:ρ (.func f)=.func (.func f) #[] #[]):(execOp ρ o).run P w=.ok (.enter f (args.map ρ)) w:=by
 have e:¬fn.body=none:=λh=>by rw [h] at m;simp at m
 have j:¬fn.name= "runtime.NumGoroutine" :=fun h=>by rw [h] at z;simp at z
 simp [execOp,C,resolve,D,Deferred.ofValue,invoke,callFunc,B,j,e]
theorem aUG {ρ:Operand->Value} {f:FuncId} {t:Nat} {e:Array Value} (C:iY P f) {args:Array Operand} {G:Array TypeId}
 (o:Oper) (E:o.op=.call { callee:=.value (.tmp t),args,argTypes:=G }) (F:ρ (.tmp t)=.func (.func f) #[] e):(execOp ρ o).run P w=.ok (.enter f (args.map ρ++e)) w:=by
 obtain⟨fn,D,z,B⟩:=C;have j:¬fn.body=none:=λh=>by rw [h] at z;simp at z
 have m:¬fn.name= "runtime.NumGoroutine" :=fun h=>by rw [h] at B;simp at B
 simp [execOp,E,resolve,F,Deferred.ofValue,invoke,callFunc,D,m,j]
theorem aBQ {l:List Operand} {xs:List A} (h:l.mapM bF=some xs):xs.length=l.length/\∀(i:Nat) x a,l[i]? =some x->xs[i]? =some a->bF x=some a:=by
 induction l generalizing xs with
 |nil=>simp only [List.mapM_nil] at h;obtain rfl:=zsi h;simp
 |cons y r B=>
  rw [List.mapM_cons] at h
  cases m:bF y with
  |none=>rw [m] at h;cases h
  |some a=>
   rw [m] at h
   cases f:r.mapM bF with
   |none=>rw [f] at h;cases h
   |some C=>
    rw [f] at h;obtain rfl:=zsi h;obtain⟨z,h2⟩:=B f;refine⟨by simp [z],λi x b j e=>?_⟩
    cases i with
    |zero=>simp only [zE,zse] at j e;subst j e;exact m
    |succ i=>exact h2 i x b (by simpa using j) (by simpa using e)
theorem aTH {ch:List (Nat×Bool)} {j:Bool} {i:I} {K:V->aD->Nat->Prop} (h:mV P st ch j i K)(m:ch≠ [])(e:j=false):∃v,K v st.so st.nx:=by
 unfold mV dG at h;split at h
 ·split at h
  ·split at h
   ·exact⟨_,h⟩
   ·split at h
    ·exact⟨_,h⟩
    ·exact⟨_,h⟩
  ·exact⟨_,h.2⟩
 ·split at h
  ·exact⟨_,h.2⟩
  ·cases h
 ·rcases h with ⟨f,-,-,h⟩|h |h |h
  ·exact⟨_,h⟩
  ·exact⟨_,h.2 e⟩
  ·exact⟨_,h.2 e⟩
  ·exact⟨_,h.2 e⟩
 ·split at h
  ·rcases h.2 with ⟨f,-,-,h⟩|h |h |h
   ·exact⟨_,h⟩
   ·exact⟨_,h.2 e⟩
   ·exact⟨_,h.2 e⟩
   ·exact⟨_,h.2 e⟩
  ·exact⟨_,h.2⟩
 all_goals first
  | (revert h;unfold lX;cases ch with
     |nil=>exact absurd rfl m
     |cons g r=>intro h;exact⟨_,h.2 e⟩)
  |exact aY2 h
def aWJ:I->Bool
 | .mv _=>true | .un _ _=>true | .bin _ _ _=>true | .conv _ _=>true | .nilck _=>true | .faddr _ _=>true | .fget _ _ _ _=>true | .ld _ _ _=>true
 | .iaddr _ _ _=>true | .iarr _ _ _ _=>true | .aidx _ _ _=>true | .slc3 _ _ _ _ _=>true | .isnil _ _=>true | .mkfn _ _=>true | .slc _ _ _ _=>true | .len _=>true | .eqb _ _ _=>true | .eqs _ _ _ _=>true | .mx _ _=>true | .mn _ _=>true | .extr _ _=>true | .mget _ _ _ _=>true | .mgetp _ _ _ _=>true
 | .slen _=>true | .sidx _ _=>true | .ssl _ _ _=>true | .scat _ _=>true | .sqs _ _ _=>true | .b2s _=>true
 |_=>false
def bB4:I->Bool
 | .alloc _=>true | .box _=>true | .st _ _ _=>true | .bslice _ _ _ _=>true | .mk _ _ _ _ _=>true | .mkmap _=>true | .mputp _ _ _=>true | .mput _ _ _=>true | .app _ _ _ _=>true | .cpy _ _ _=>true | .clr _ _ _=>true | .s2b _=>true | .aslc _ _ _=>true | .cpys _ _=>true
 |_=>false
theorem bB1 {ch:List (Nat×Bool)} {e:Bool} {i:I} (h:aWJ i=true)(K:V->aD->Nat->Prop):mV P st ch e i K=gF st.so i (bM st.sl ch) e λv=>K v st.so st.nx:=by
 cases i <;> first |rfl | (simp [aWJ] at h)
theorem bB2 {ch:List (Nat×Bool)} {e:Bool} {i:I} (h:bB4 i=true)(K:V->aD->Nat->Prop):mV P st ch e i K=lX st.sl st.so st.nx ch e i K:=by
 cases i <;> first |rfl | (simp [bB4] at h)
theorem aPD {o:Op} {i:I} (h:aN9 P o=some i):aWJ i=true\/∃c a b c' a' b',o=.pick c a b/\i=.pick c' a' b'/\bF c=some c'/\bF a=some a'/\bF b=some b':=by
 unfold aN9 at h;split at h
 case h_3=>
  split at h
  ·rename_i h1 h2 h3;obtain rfl:=zsi h;exact .inr ⟨_,_,_,_,_,_,rfl,rfl,h1,h2,h3⟩
  ·cases h
 all_goals
  left
  first
   | (simp only [zA] at h;obtain⟨a,h1,rfl⟩:=h;rfl)
   |skip
 all_goals
  repeat' (first | (cases h;done)| (obtain rfl:=zsi h;rfl)| (simp only [zA] at h;obtain⟨a,h1,rfl⟩:=h;rfl)|split at h)
theorem aCX {o:Op} {i:I} (h:aGE P o=some i):aWJ i=true\/∃c a b j e f,o=.pick c a b/\i=.pick j e f/\bF c=some j/\bF a=some e/\bF b=some f:=by
 unfold aGE at h;split at h
 ·rename_i m;obtain rfl:=zsi h;exact aPD m
 ·left;unfold bC7 at h;split at h
  all_goals
   repeat' (first | (cases h;done)| (obtain rfl:=zsi h;rfl)| (simp only [zA] at h;obtain⟨a,m,rfl⟩:=h;rfl)|split at h)
theorem aIJ {o:Op} {i:I} (h:aYH P o=some i):bB4 i=true:=by
 unfold aYH at h;split at h
 all_goals
  repeat' (first | (cases h;done)| (obtain rfl:=zsi h;rfl)| (simp only [zA] at h;obtain⟨a,e,rfl⟩:=h;rfl)|split at h)
theorem bII {S:aD} {n:Nat} {i:I} {e:A->V} {K:V->aD->Nat->Prop} (h:oR S n i e K):oR S n i e λv j f=>n<=f/\K v j f:=by
 revert h;unfold oR
 repeat' split
 all_goals intro h
 all_goals first
  |exact h.elim
  |exact⟨by omega,h⟩
  |exact⟨h.1,by omega,h.2⟩
  |exact⟨h.1,h.2.1,by omega,h.2.2⟩
  |exact⟨h.1,h.2.1,h.2.2.1,by omega,h.2.2.2⟩
  |exact⟨h.1,h.2.1,h.2.2.1,h.2.2.2.1,by omega,h.2.2.2.2⟩
  |exact⟨h.1,h.2.1,h.2.2.1,h.2.2.2.1,h.2.2.2.2.1,by omega,h.2.2.2.2.2⟩
  |exact⟨h.1,h.2.1,h.2.2.1,h.2.2.2.1,h.2.2.2.2.1,h.2.2.2.2.2.1,by omega,h.2.2.2.2.2.2⟩
  | (obtain⟨m,h2,z⟩:=h
     refine⟨m,h2,?_⟩;revert z
     repeat' split
     all_goals intro h
     all_goals first
      |exact h.elim
      |exact⟨h.1,h.2.1,by omega,h.2.2⟩
      |exact⟨h.1,h.2.1,h.2.2.1,h.2.2.2.1,h.2.2.2.2.1,by omega,h.2.2.2.2.2⟩)
theorem aAB [pI](h:bE U N σ st act w) {m:Nat} (hmn:m<=st.nx)(hfree:∀i,i<16->st.so.get (m+i)=none/\σ (m+i)=none) {ops:Array Oper} {o:Oper} {i:I} {g:Option (Nat×Bool)} {d:Option Nat} (hi:aU4 P o.op=some i)(hg:aU3 ops N o.guard=some g)(hd:aU2 N o.dst=some d)
 {ch:List (Nat×Bool)} {gc:Bool} (hgu:guardOf st.sl g=some (ch,gc)) {G:List Nat} (hG:GIn st.sl G) (hdG:∀d',d=some d'->d'∉G) (hchG:∀x∈ch,x.1∈G)
 {KF:V->aD->Nat->Prop} (hK:mV P ⟨st.sl,st.so,m⟩ ch gc i KF) {next:Act->World->Prop} {Q:Exit->Act->World->Prop}
 (hnext:∀σ' v S' n1 cv w',KF v S' n1->m<=n1->bE U N σ' ⟨rV st.sl d ⟨ch,gc,v⟩,S',max st.nx n1⟩ (act.put d cv) w'->bJ σ st.so w st.nx σ' S' w' (max st.nx n1)->GIn (rV st.sl d ⟨ch,gc,v⟩) G->(∀k,¬(m<=k/\k<m+16)->σ' k=σ k)->next (act.put d cv) w'):
 if Region.wanted o (yielded ops act.tmps) then o.wp P act w next Q else next (act.put o.dst undef) w:=by
 obtain⟨c1,c2,c3,c4⟩:=aA8 h hgu
 have hdd:o.dst=d/\∀d',d=some d'->d'<N:=by
  unfold aU2 at hd;split at hd
  ·rename_i h0;obtain rfl:=zsi hd;exact⟨h0,λ_ h=>by cases h⟩
  ·rename_i d0 h0;split at hd
   ·rename_i hlt;obtain rfl:=zsi hd;exact⟨h0,λd' hd'=>by obtain rfl:=zsi hd';exact hlt⟩
   ·cases hd
 obtain⟨hdst,hdN⟩:=hdd;have hdNG:∀d',d=some d'->d'<N/\d'∉G:=λd' h=>⟨hdN d' h,hdG d' h⟩;have hch':∀(s:SV),s.ch=ch->∀g∈s.ch,g.1∈G:=λs hs g hg=>hchG g (hs▸hg);rw [hdst]
 by_cases hw:Region.wanted o (yielded ops act.tmps)=true
 ·rw [if_pos hw];have hgc:gc=true:=c2 ((rM hg h.sz).1 hw);subst hgc;have hold:=c3 rfl;have hall:∀x a,bF x=some a->VR (Own U σ st.so) w σ (bM st.sl ch a) (act.eval x):=λx a hx=>gP h hold hx
  have fin:∀(v:V) (cv:Value) (σ':Sg) (S':aD) (w':World) (n':Nat),KF v S' n'->m<=n'->(∀k,¬(m<=k/\k<m+16)->σ' k=σ k)->VR (Own U σ' S') w' σ' v cv->aP U σ' S' w' (max st.nx n')->bJ σ st.so w st.nx σ' S' w' (max st.nx n')->next (act.put d cv) w':=by
   intro v cv σ' S' w' n' hK hmn' hσ hv hR' g;refine hnext σ' v S' n' cv w' hK hmn' (h.put hG g hR' hdNG λtmps' ht=>?_) g (hG.put (hch' _ rfl)) hσ;unfold uT;split
   ·exact hv
   ·rename_i gg r hc;refine⟨λ_=>rfl,λ_=>⟨λx hx=>?_,hv⟩,λh=>by cases h⟩
    have hc':ch=gg::r:=hc;exact(ht x (hchG x (hc'▸hx))).2 (hold x (hc'▸hx))
  have hmx:max st.nx m=st.nx:=by omega
  have rd:gZ P U σ st.so w act.eval o.op (λv=>KF v st.so m)->o.wp P act w next Q:=by rintro ⟨v,cv,hk,hv,hrun⟩;unfold Oper.wp;rw [hrun w o rfl (uO.refl w),Oper.upon_value,hdst];exact fin v cv σ st.so w m hk (zJ _) (λ_ _=>rfl) hv (by rw [hmx];exact h.rel) (by rw [hmx];exact bJ.refl _ _ _ _)
  have wr:qK P U σ st.so w st.nx m act.eval o.op (λv S n=>m<=n/\KF v S n)->o.wp P act w next Q:=by
   rintro ⟨v,S',n',⟨hge,hk⟩,hrun⟩;obtain⟨nx,cv,w',σ',h1,h2,hσ,h3,h4,h5⟩:=hrun o rfl;have hσ':∀k,¬(m<=k/\k<m+16)->σ' k=σ k:=λk hk=>hσ k (by omega);unfold Oper.wp;rw [h1];rcases h2 with rfl | ⟨rfl,rfl⟩
   ·rw [Oper.upon_value,hdst];exact fin v cv σ' S' w' n' hk hge hσ' h5 h4 h3
   ·rw [Oper.upon_skip,hdst];exact fin v _ σ' S' w' n' hk hge hσ' h5 h4 h3
  unfold aU4 at hi;split at hi
  ·rename_i i' hi';obtain rfl:=zsi hi;rcases aCX hi' with hrd | ⟨c,a,b,c',a',b',ho,rfl,e1,e2,e3⟩
   ·rw [bB1 hrd] at hK;exact rd (aU0 hi' (λ_=>rfl) h.rel hall hK)
   ·refine rd ?_;simp only [mV,dG] at hK;split at hK
    ·rename_i tc a'' b'' heq;obtain⟨rfl,rfl,rfl⟩:=I.pick.inj heq;split at hK
     ·rename_i x hx
      obtain⟨t,rfl⟩:∃t,c=.tmp t:=by
       cases c with
       |tmp t=>exact⟨t,rfl⟩
       |const v=>simp only [bF,zA] at e1;obtain⟨_,_,h⟩:=e1;cases h
       |func f=>simp [bF] at e1
       |global g=>simp only [bF,zA] at e1;obtain⟨_,_,h⟩:=e1;cases h
      obtain rfl:t=tc:=by simpa [bF] using e1
      have hcv:=hall _ _ e1;rw [hx] at hcv;generalize hvc:act.eval (.tmp t)=vc at hcv;cases hcv
      have hgx:holds act.tmps (t,x):=hvc;have run:∀(w':World) (o':Oper),o'.op=o.op->(execOp act.eval o').run P w'=.ok (.value (if x=true then act.eval a else act.eval b)) w':=by intro w' o' ho';simp [execOp,ho',ho,hvc,asBool]
      have ha:x=true->VR (Own U σ st.so) w σ (bM st.sl ((t,true)::ch) a') (act.eval a):=λhx=>gP h (ch:=(t,true)::ch) (λg hg=>by rcases List.mem_cons.1 hg with rfl |hg;exact hx▸hgx;exact hold g hg) e2
      have hb:x=false->VR (Own U σ st.so) w σ (bM st.sl ((t,false)::ch) b') (act.eval b):=λhx=>gP h (ch:=(t,false)::ch) (λg hg=>by rcases List.mem_cons.1 hg with rfl |hg;exact hx▸hgx;exact hold g hg) e3
      split at hK
      ·rename_i p q hp hq
       cases x with
       |true=> have :=ha rfl;rw [hp] at this;exact⟨_,act.eval a,hK,this,λw' o' ho' _=>by rw [run w' o' ho'];rfl⟩
       |false=> have :=hb rfl;rw [hq] at this;exact⟨_,act.eval b,hK,this,λw' o' ho' _=>by rw [run w' o' ho'];rfl⟩
      ·split at hK
       ·exact⟨_,act.eval a,hK,ha rfl,λw' o' ho' _=>by rw [run w' o' ho'];rfl⟩
       ·exact⟨_,act.eval b,hK,hb rfl,λw' o' ho' _=>by rw [run w' o' ho'];rfl⟩
     ·exact absurd hK.1 (by simp)
    all_goals first
     | (rename_i heq;cases heq;done)
     |exact(show False from hK).elim
  ·split at hi
   ·rename_i z ps hb;obtain rfl:=zsi hi;simp only [mV,dG] at hK;split at hK
    ·rename_i cs hcs;obtain⟨hz,hK⟩:=hK;obtain⟨cv,hv,hrun⟩:=aL8 (P:=P) hb hz hall hcs;exact rd ⟨_,cv,hK,hv,λw' o' ho' _=>hrun w' o' ho'⟩
    ·cases hK
   ·split at hi
    ·rename_i i' hi';obtain rfl:=zsi hi;rw [bB2 (aIJ hi')] at hK;unfold lX at hK
     have hK:oR st.so m i' (bM st.sl ch) KF:=by
      cases ch with
      |nil=>exact hK
      |cons g r=>exact hK.1 rfl
     exact wr (aZC hi' h.rel (hfree 0 (by omega)) hmn (λx a hx=>gP h hold hx) (bII hK))
    ·unfold aGD at hi;split at hi
     case h_2=>obtain rfl:=zsi hi;exact hK.elim
     rename_i _ ic hic;obtain rfl:=zsi hi;clear hi;have hi:=hic;unfold aK5 at hi;split at hi
     ·rename_i f args ts hop;split at hi
      ·rename_i fn hfn;split at hi
       ·rename_i hb;simp only [zA] at hi;obtain⟨xs,hxs,rfl⟩:=hi;simp only [mV,dG] at hK;obtain⟨hlen,hget⟩:=aBQ hxs;have hargs:∀(i:Nat) v c,(xs.map (bM st.sl ch))[i]? =some v->(args.map act.eval)[i]? =some c->VR (Own U σ st.so) w σ v c:=λi v c hv hc=>by rw [zT,zA] at hv;obtain⟨a,ha,rfl⟩:=hv;rw [zS,zA] at hc;obtain⟨x,hx,rfl⟩:=hc;exact hall x a (hget i x a (by simpa using hx) ha)
        unfold Oper.wp;rw [aUF hfn hb.1 hb.2 o hop rfl,Oper.upon_enter];rcases hK with ⟨res,hf,hbor,hK⟩| ⟨hK,-⟩| ⟨hK,-⟩| ⟨hK,-⟩
        ·obtain⟨hok,hfc⟩:=hf rfl;refine(aCS h.rel (args:=xs.map (bM st.sl ch)) (by simp [hlen]) hargs hok hfc hbor).mono λe w' ⟨cv,he,hv,hkp⟩=>?_;subst he;rw [hdst];exact fin res cv σ st.so w' m hK (zJ _) (λ_ _=>rfl) hv (by rw [hmx];exact h.rel.of_keep hkp) (by rw [hmx];exact bJ.of_keep hkp)
        ·obtain⟨L,ob0,ob1,res,hfc,hlent,hnd,hle,hle2,hK⟩:=hK trivial;refine(aD7 h.rel hfree (args:=xs.map (bM st.sl ch)) (by simp [hlen]) hargs hfc hlent hnd (zC hle) (zC hle2)).mono λe w' ⟨cv,σ',he,hσ,g,r,hv⟩=>?_;subst he;rw [hdst];exact fin _ cv σ' _ w' _ hK (by omega) hσ hv r g
        ·obtain⟨Fz,res,hfc,hok,hK⟩:=hK trivial;refine(aCF h.rel (args:=xs.map (bM st.sl ch)) (by simp [hlen]) hargs hok hfc).mono λe w' ⟨cv,he,hv,hkp⟩=>?_;subst he;rw [hdst];have hR1:=(h.rel.frz Fz).of_keep hkp;have hG1:bJ σ st.so w st.nx σ (jK st.so Fz) w' st.nx:=(bJ.frz Fz).trans (bJ.of_keep hkp);exact fin res cv σ _ w' _ hK (by omega) (λ_ _=>rfl) hv ⟨hR1.obj,hR1.inj,λk hk=>hR1.fresh k (by omega),hR1.disj,hR1.ulim,hR1.gl⟩ ⟨hG1.keep,hG1.own,hG1.sg,by omega⟩
        ·obtain⟨L,ob0,ob1,res,hfc,hlent,hnd,hle2,hK⟩:=hK trivial;refine(aCM h.rel hfree (args:=xs.map (bM st.sl ch)) (by simp [hlen]) hargs hfc hlent hnd (zC hle2)).mono λe w' ⟨cv,σ',he,hσ,g,r,hv⟩=>?_;subst he;rw [hdst];exact fin _ cv σ' _ w' _ hK (by omega) hσ hv r g
       ·cases hi
      ·cases hi
     ·rename_i t args ts hop;simp only [zA] at hi;obtain⟨xs,hxs,rfl⟩:=hi;simp only [mV,dG] at hK;have hfv:=hall (.tmp t) (.t t) rfl;split at hK
      ·rename_i f caps hcl0;obtain⟨hcal,hK⟩:=hK;rw [hcl0] at hfv;generalize hva:act.eval (.tmp t)=va at hfv
       cases hfv with
       | @fn _ _ _ arr hn0 hcaps=>
       obtain⟨hlen,hget⟩:=aBQ hxs
       have hargs:∀(i:Nat) v c,(xs.map (bM st.sl ch)++caps)[i]? =some v->(args.map act.eval++arr)[i]? =some c->VR (Own U σ st.so) w σ v c:=λi v c hv hc=>by
        rw [List.getElem?_append,List.length_map] at hv;rw [Array.getElem?_append,Array.size_map] at hc;have hsz:xs.length=args.size:=by simpa using hlen
        split at hv
        ·rename_i hlt;rw [if_pos (by omega)] at hc;rw [zT,zA] at hv;obtain⟨a,ha,rfl⟩:=hv;rw [zS,zA] at hc;obtain⟨x,hx,rfl⟩:=hc;exact hall x a (hget i x a (by simpa using hx) ha)
        ·rename_i hlt;rw [if_neg (by omega),<-hsz] at hc;exact hcaps _ v c hv hc
       have hsz2:(args.map act.eval++arr).size=(xs.map (bM st.sl ch)++caps).length:=by
        have hsz:xs.length=args.size:=by simpa using hlen
        simp [hsz,hn0]
       unfold Oper.wp;rw [aUG hcal o hop hva,Oper.upon_enter];rcases hK with ⟨res,hf,hbor,hK⟩| ⟨hK,-⟩| ⟨hK,-⟩| ⟨hK,-⟩
       ·obtain⟨hok,hfc⟩:=hf rfl;refine(aCS h.rel (args:=xs.map (bM st.sl ch)++caps) hsz2 hargs hok hfc hbor).mono λe w' ⟨cv,he,hv,hkp⟩=>?_;subst he;rw [hdst];exact fin res cv σ st.so w' m hK (zJ _) (λ_ _=>rfl) hv (by rw [hmx];exact h.rel.of_keep hkp) (by rw [hmx];exact bJ.of_keep hkp)
       ·obtain⟨L,ob0,ob1,res,hfc,hlent,hnd,hle,hle2,hK⟩:=hK trivial;refine(aD7 h.rel hfree (args:=xs.map (bM st.sl ch)++caps) hsz2 hargs hfc hlent hnd (zC hle) (zC hle2)).mono λe w' ⟨cv,σ',he,hσ,g,r,hv⟩=>?_;subst he;rw [hdst];exact fin _ cv σ' _ w' _ hK (by omega) hσ hv r g
       ·obtain⟨Fz,res,hfc,hok,hK⟩:=hK trivial;refine(aCF h.rel (args:=xs.map (bM st.sl ch)++caps) hsz2 hargs hok hfc).mono λe w' ⟨cv,he,hv,hkp⟩=>?_;subst he;rw [hdst];have hR1:=(h.rel.frz Fz).of_keep hkp;have hG1:bJ σ st.so w st.nx σ (jK st.so Fz) w' st.nx:=(bJ.frz Fz).trans (bJ.of_keep hkp);exact fin res cv σ _ w' _ hK (by omega) (λ_ _=>rfl) hv ⟨hR1.obj,hR1.inj,λk hk=>hR1.fresh k (by omega),hR1.disj,hR1.ulim,hR1.gl⟩ ⟨hG1.keep,hG1.own,hG1.sg,by omega⟩
       ·obtain⟨L,ob0,ob1,res,hfc,hlent,hnd,hle2,hK⟩:=hK trivial;refine(aCM h.rel hfree (args:=xs.map (bM st.sl ch)++caps) hsz2 hargs hfc hlent hnd (zC hle2)).mono λe w' ⟨cv,σ',he,hσ,g,r,hv⟩=>?_;subst he;rw [hdst];exact fin _ cv σ' _ w' _ hK (by omega) hσ hv r g
      ·exact absurd hK.1 (by simp)
     ·cases hi
 ·rw [if_neg hw];have hne:ch≠ []:=λh0=>hw ((rM hg h.sz).2 λx hx=>by rw [(c1 h0).2] at hx;cases hx)
  have hgf:gc=false:=by
   cases hgc:gc with
   |false=>rfl
   |true=> refine absurd ((rM hg h.sz).2 λx hx=>?_) hw;obtain⟨r,hr⟩:=c4 x hx;exact c3 hgc x (by rw [hr];simp)
  obtain⟨v,hv⟩:=aTH hK hne hgf;have hmx:max st.nx m=st.nx:=by omega
  refine hnext σ v _ _ undef w hv (zJ _) (h.put hG (by rw [hmx];exact bJ.refl _ _ _ _) (by rw [hmx];exact h.rel) hdNG λtmps' ht=>?_) (by rw [hmx];exact bJ.refl _ _ _ _) (hG.put (hch' _ rfl)) (λ_ _=>rfl);unfold uT;split
  ·rename_i hc;exact absurd hc hne
  ·rename_i gg r hc;refine⟨λhh=>?_,⟨λhg'=>absurd (show gc=true from hg') (by simp [hgf]),λ_=>rfl⟩⟩;have hc':ch=gg::r:=hc;have :=(ht gg (hchG gg (by rw [hc'];simp))).1 hh
   cases hgg:g with
   |none=> rw [hgg] at hgu;simp only [guardOf,zse,Prod.mk.injEq] at hgu;rw [<-hgu.1] at hne;exact absurd rfl hne
   |some x=> obtain⟨r',hr'⟩:=c4 x hgg;rw [hc'] at hr';obtain⟨rfl,-⟩:=List.cons.inj hr';exact c2 λy hy=>by rw [hgg] at hy;obtain rfl:=zsi hy;exact this
end
end Go.Sk
namespace Go.Sk
open Go Go.RowKit
variable [gD]
def aF9(k:Nat):List (Option Nat)->Bool
 | []=>false
 |some j::r=>Nat.beq k j||aF9 k r
 |none::r=>aF9 k r
theorem sQ:∀ {k:Nat} {l:List (Option Nat)},aF9 k l=false->some k∉l
 |_,[],_=>by simp
 |k,some j::r,h=>by simp only [aF9,Bool.or_eq_false_iff] at h;have e:k≠j:=zH h.1;have h2:=sQ h.2;simp [e,h2]
 |k,none::r,h=>by simp only [aF9] at h;have h2:=sQ h;simp [h2]
def rD:List (Option Nat)->Bool
 | []=>true
 |none::r=>rD r
 |some k::r=> !aF9 k r&&rD r
def vw1(S:aD)(ids:List (Option Nat))(x y:V):Prop:=
 match y with
 | .any=>True
 | .sl j off len=>match x with
   | .sl k off' len'=>ids[j]? =some (some k)/\off'=off/\len'=len
   | .slk k off' len' _=>ids[j]? =some (some k)/\off'=off/\len'=len
   | .lst _ t xs=>ids[j]? =some none/\t=true/\xs=[]/\off=0/\len=0
   |_=>False
 | .slk j off len c=>match x with
   | .slk k off' len' c'=>ids[j]? =some (some k)/\off'=off/\len'=len/\c'=c
   |_=>False
 | .ptr j i c=>match x with
   | .ptr k i' c'=>ids[j]? =some (some k)/\i'=i/\c'=c
   |_=>False
 | .mp j=>match x with
   | .mp k=>ids[j]? =some (some k)
   |_=>False
 | .lst es t xs=>match x with
   | .lst es' t' xs'=>(es'=es\/xs=[])/\(t=true->t'=true)/\xs'=xs
   | .sl k off len=>match S.get k with
     |some (.row es' xs')=>es'=es/\t=false/\off+len<=xs'.length/\(xs'.drop off).take len=xs/\aF9 k ids=false
     |_=>False
   | .slk k off len c=>match S.get k with
     |some (.row es' xs')=>es'=es/\(t=true->c=len)/\off+len<=xs'.length/\(xs'.drop off).take len=xs/\aF9 k ids=false
     |_=>False
   |_=>False
 | .int k m=>match x with
   | .int k' m'=>k'=k/\m'=m
   |_=>False
 | .bool b=>match x with
   | .bool b'=>b'=b
   |_=>False
 | .str s=>x=.str s
 | .nil=>x=.nil
 | .val v=>x=.val v
 | .rp es cs c=>x=.rp es cs c
 |_=>False
def aL4(p:V->V->Prop):List V->List V->Prop
 | [],[]=>True
 |x::xs,y::ys=>p x y/\aL4 p xs ys
 |_,_=>False
theorem sB {p:V->V->Prop} :∀ {xs ys:List V},aL4 p xs ys->xs.length=ys.length/\∀(i:Nat) y,ys[i]? =some y->∃x,xs[i]? =some x/\p x y
 | [],[],_=>by simp
 | [],_::_,h=>h.elim
 |_::_,[],h=>h.elim
 |x::xs,y::ys,h=>by
  obtain⟨f,h2⟩:=h;obtain⟨j,h4⟩:=sB h2;refine⟨by simp [j],λi z e=>?_⟩
  cases i with
  |zero=>simp only [zE,zse] at e;subst e;exact⟨x,rfl,f⟩
  |succ i=>exact h4 i z (by simpa using e)
def vw2(S:aD)(ids:List (Option Nat))(x y:V):Prop:=
 match y with
 | .agg ys=>match x with
   | .agg xs=>aL4 (vw1 S ids) xs ys
   |_=>False
 | .fn g ys=>match x with
   | .fn f xs=>f=g/\aL4 (vw1 S ids) xs ys
   |_=>False
 |y=>vw1 S ids x y
def vw3(S:aD)(ids:List (Option Nat))(x y:V):Prop:=
 match y with
 | .tup ys=>match x with
   | .tup xs=>aL4 (vw2 S ids) xs ys
   |_=>False
 |y=>vw2 S ids x y
def aZ8(S:aD)(ids:List (Option Nat))(x y:Obj):Prop:=
 match x,y with
 | .row es xs,.row es' ys=>es=es'/\xs=ys
 | .box xs,.box ys=>aL4 (vw1 S ids) xs ys
 | .mp xs,.mp ys=>xs=ys
 | .bb xs,.bb ys=>xs=ys
 | .box xs,.row es rows=>es=xs.length/\rows=[xs]/\xs.all cF=true
 |_,_=>False
def oQ(S:aD)(ids:List (Option Nat)):List (Option Nat)->List Obj->Prop
 | [],[]=>True
 |some k::r,o::os=>(match S.get k with |some p=>aZ8 S ids p o |none=>False)/\oQ S ids r os
 |none::r,o::os=>(match o with | .row _ xs=>xs=[] |_=>False)/\oQ S ids r os
 |_,_=>False
def aBV:List (Option Nat)->Prop
 | []=>True
 |none::r=>aBV r
 |some k::r=>some k∉r/\aBV r
theorem nC:∀ {l:List (Option Nat)},rD l=true->aBV l
 | [],_=>trivial
 |none::r,h=>nC (l:=r) h
 |some k::r,h=>by simp only [rD,zF,Bool.not_eq_true'] at h;exact⟨sQ h.1,nC h.2⟩
def nY:Nat->Nat->List (Option Nat)->Prop
 |_,0,_=>True
 |i,m+1,some k::r=>k=i/\nY (i+1) m r
 |_,_+1,_=>False
theorem lN:∀(m i:Nat) (ids:List (Option Nat)),nY i m ids->∀j,j<m->ids[j]? =some (some (i+j))
 |0,_,_,_,j,e=>by omega
 |m+1,i,some k::r,h,j,e=>by
  obtain⟨rfl,h⟩:=h
  cases j with
  |zero=>rfl
  |succ j=>
   have :=lN m (k+1) r h j (by omega);rw [List.getElem?_cons_succ,this]
   congr 2;omega
 |m+1,i,[],h,j,e=>h.elim
 |m+1,i,none::r,h,j,e=>h.elim
theorem aFX:∀ {l:List (Option Nat)},aBV l->∀(i j k:Nat),l[i]? =some (some k)->l[j]? =some (some k)->i=j
 | [],_,i,j,k,h,_=>by simp at h
 |a::r,f,i,j,k,hi,e=>by
  have m:aBV r:=by cases a <;> first |exact f |exact f.2
  cases i with
  |zero=>
   simp only [zE,zse] at hi;subst hi
   cases j with
   |zero=>rfl
   |succ j=>exact absurd (zG (by simpa using e)) f.1
  |succ i=>
   cases j with
   |zero=> simp only [zE,zse] at e;subst e;exact absurd (zG (by simpa using hi)) f.1
   |succ j=>rw [aFX m i j k (by simpa using hi) (by simpa using e)]
theorem iP {S:aD} {ids:List (Option Nat)} :∀ {l:List (Option Nat)} {obs:List Obj},oQ S ids l obs->l.length=obs.length/\∀(j:Nat) o,obs[j]? =some o->
 (∃k p,l[j]? =some (some k)/\S.get k=some p/\aZ8 S ids p o)\/(l[j]? =some none/\∃es,o=.row es [])
 | [],[],_=>by simp
 | [],_::_,h=>h.elim
 |some _::_,[],h=>h.elim
 |none::_,[],h=>h.elim
 |some k::r,o::B,h=>by
  obtain⟨e,h2⟩:=h;obtain⟨m,h4⟩:=iP h2;refine⟨by simp [m],λj q f=>?_⟩
  cases j with
  |zero=>
   simp only [zE,zse] at f;subst f;split at e
   ·rename_i p z;exact .inl ⟨k,p,rfl,z,e⟩
   ·cases e
  |succ j=>simpa using h4 j q (by simpa using f)
 |none::r,o::B,h=>by
  obtain⟨e,h2⟩:=h;obtain⟨m,h4⟩:=iP h2;refine⟨by simp [m],λj q f=>?_⟩
  cases j with
  |zero=>
   simp only [zE,zse] at f;subst f;split at e
   ·subst e;exact .inr ⟨rfl,_,rfl⟩
   ·cases e
  |succ j=>simpa using h4 j q (by simpa using f)
def qI(σ:Sg)(ids:List (Option Nat))(obs:List Obj):Sg:=λj=>
 match ids[j]? with
 |some (some k)=>σ k
 |some none=>match obs[j]? with
  |some (.row es _)=>some (none,es,0)
  |_=>none
 |none=>none
section
variable {U:Nat->Prop} {σ:Sg} {S:aD} {w:World} {n:Nat} {ids:List (Option Nat)} {obs:List Obj}
theorem jA(e:oQ S ids ids obs) {b:Nat} (h:eV (qI σ ids obs) (aF 0 obs) b):∃(j k:Nat) (p:Obj) (es cap:Nat),ids[j]? =some (some k)/\S.get k=some p/\σ k=some (some b,es,cap):=by
 obtain⟨j,o,es,cap,m,z⟩:=h;rw [eG,if_pos (zQ _),zM] at m;rcases(iP e).2 j o m with ⟨k,p,f,h2,C⟩| ⟨f,B,rfl⟩
 ·simp only [qI,f] at z;exact⟨j,k,p,es,cap,f,h2,z⟩
 ·simp [qI,f,m] at z
theorem kX(e:oQ S ids ids obs) {b:Nat} (h:Own U (qI σ ids obs) (aF 0 obs) b):Own U σ S b:= h.imp id λh=>by obtain⟨j,k,p,es,cap,-,h2,f⟩:=jA e h;exact⟨k,p,es,cap,h2,f⟩
theorem aKO(M:aP U σ S w n)(e:oQ S ids ids obs) {x y:V} {v:Value} (h:vw1 S ids x y)(hv:VR (Own U σ S) w σ x v):VR (Own U (qI σ ids obs) (aF 0 obs)) w (qI σ ids obs) y v:=by
 have sub:∀ {x v},VR (Own U σ S) w (λ_=>none) x v->∀σ',VR (Own U (qI σ ids obs) (aF 0 obs)) w σ' x v:=λh σ'=>(h.mono (bZ.refl _ _) (λb _ h=>kX e h) λ_ _=>rfl:VR _ _ (λ_=>none) _ _).lift σ';have H:=(iP e).1;unfold vw1 at h;split at h
 ·exact .any _
 ·split at h
  ·obtain⟨z,rfl,rfl⟩:=h;have C:∀j k,ids[j]? =some (some k)->qI σ ids obs j=σ k:=λj k h=>by simp [qI,h]
   cases hv with
   |sl m B G=>exact .sl ((C _ _ z).trans m) B G
   |sl0 m=>exact .sl0 ((C _ _ z).trans m)
  ·obtain⟨z,rfl,rfl⟩:=h;have C:∀j k,ids[j]? =some (some k)->qI σ ids obs j=σ k:=λj k h=>by simp [qI,h]
   cases hv with
   |slk m B G hc=>subst hc;exact .sl ((C _ _ z).trans m) B G
   |slk0 m=>exact .sl0 ((C _ _ z).trans m)
  ·obtain⟨z,rfl,rfl,rfl,rfl⟩:=h
   cases hv with
   |lst b o cv G Z F O R Y W=>
    have J:=O rfl;subst J;obtain⟨hj,-⟩:=List.getElem?_eq_some_iff.1 z;rcases(iP e).2 _ _ (zL (H▸hj)) with ⟨k,p,Q,-⟩| ⟨-,es,he⟩
    ·rw [z] at Q;cases Q
    ·exact .sl0 (es:=es) (by simp [qI,z,zL (H▸hj),he])
  ·cases h
 ·split at h
  ·obtain⟨z,rfl,rfl,rfl⟩:=h;have C:∀j k,ids[j]? =some (some k)->qI σ ids obs j=σ k:=λj k h=>by simp [qI,h]
   cases hv with
   |slk m B G hc=>exact .slk ((C _ _ z).trans m) B G hc
   |slk0 m=>exact .slk0 ((C _ _ z).trans m)
  ·cases h
 ·split at h
  ·obtain⟨z,rfl,rfl⟩:=h;have C:∀j k,ids[j]? =some (some k)->qI σ ids obs j=σ k:=λj k h=>by simp [qI,h]
   cases hv with
   |ptr m=>exact .ptr ((C _ _ z).trans m)
  ·cases h
 ·split at h
  ·have C:∀j k,ids[j]? =some (some k)->qI σ ids obs j=σ k:=λj k h=>by simp [qI,h]
   cases hv with
   |mp m=>exact .mp ((C _ _ h).trans m)
  ·cases h
 ·split at h
  ·obtain⟨z,h2,rfl⟩:=h;refine sub ?_ _
   cases hv with
   | @lst _ _ _ _ ad cap b o cv G Z F O R Y W=>
     rcases z with rfl |rfl
     ·exact .lst b o cv G Z F (λhh=>O (h2 hh)) R Y W
     ·exact .lst (xs:= []) b o cv (by simp) (by simp) F (λhh=>O (h2 hh)) (by simp) (by simp) (by simp)
  ·split at h
   ·rename_i k aa len _ E ab K;obtain⟨rfl,rfl,B,rfl,hk⟩:=h
    exact(aKC M (λb h=>kX e h) hv K B λb es cap m f=>by
     rcases f with hu |f
     ·exact M.disj b ⟨k,_,_,_,K,m⟩ hu
     ·obtain⟨j,k',p,E,D,z,h2,h3⟩:=jA e f;obtain rfl:=M.inj k k' _ _ b es cap E D K h2 m h3;exact sQ hk (zG z)).lift _
   ·cases h
  ·split at h
   ·rename_i k aa len c _ E ab K;obtain⟨rfl,O,B,rfl,hk⟩:=h
    exact(aKD M (λb h=>kX e h) hv K B (λb es cap m f=>by
     rcases f with hu |f
     ·exact M.disj b ⟨k,_,_,_,K,m⟩ hu
     ·obtain⟨j,k',p,E,D,z,h2,h3⟩:=jA e f;obtain rfl:=M.inj k k' _ _ b es cap E D K h2 m h3;exact sQ hk (zG z)) _ O).lift _
   ·cases h
  ·cases h
 ·split at h
  ·obtain⟨rfl,rfl⟩:=h;cases hv;exact .int _ _
  ·cases h
 ·split at h
  ·obtain rfl:=h;cases hv;exact .bool _
  ·cases h
 ·subst h;exact sub (aV hv rfl) _
 ·subst h;exact sub (aV hv rfl) _
 ·subst h;cases hv;exact .val _
 ·subst h;exact sub (aV hv rfl) _
 ·cases h
theorem aPP(m:aP U σ S w n)(e:oQ S ids ids obs) {x y:V} {v:Value} (h:vw2 S ids x y)(hv:VR (Own U σ S) w σ x v):VR (Own U (qI σ ids obs) (aF 0 obs)) w (qI σ ids obs) y v:=by
 unfold vw2 at h;split at h
 ·split at h
  ·obtain⟨j,h2⟩:=sB h
   cases hv with
   |agg B z=> refine .agg (by rw [B,j]) λi y u E C=>?_;obtain⟨x,D,f⟩:=h2 i y E;exact aKO m e f (z i x u D C)
  ·cases h
 ·split at h
  ·obtain⟨rfl,h⟩:=h;obtain⟨j,h2⟩:=sB h
   cases hv with
   |fn B z=> refine .fn (by rw [B,j]) λi y u E C=>?_;obtain⟨x,D,f⟩:=h2 i y E;exact aKO m e f (z i x u D C)
  ·cases h
 ·exact aKO m e h hv
theorem aGW(j:aP U σ S w n)(e:oQ S ids ids obs) {x y:V} {v:Value} (h:vw3 S ids x y)(hv:VR (Own U σ S) w σ x v):VR (Own U (qI σ ids obs) (aF 0 obs)) w (qI σ ids obs) y v:=by
 unfold vw3 at h;split at h
 ·split at h
  ·obtain⟨m,h2⟩:=sB h
   cases hv with
   |tup B z=> refine .tup (by rw [B,m]) λi y u E C=>?_;obtain⟨x,D,f⟩:=h2 i y E;exact aPP j e f (z i x u D C)
  ·cases h
 ·exact aPP j e h hv
theorem aP.view(hR:aP U σ S w n)(hobs:oQ S ids ids obs)(hnd:aBV ids):aP U (qI σ ids obs) (aF 0 obs) w obs.length where
 obj:=λj o hj=>by
  rw [eG,if_pos (zQ _),zM] at hj;rcases(iP hobs).2 j o hj with ⟨k,p,h1,h2,h3⟩| ⟨h1,es',rfl⟩
  ·have hob:=hR.obj k p h2;have hs:qI σ ids obs j=σ k:=by simp [qI,h1]
   rw [hs];unfold aZ8 at h3;split at h3
   ·obtain⟨rfl,rfl⟩:=h3;obtain⟨hl,h⟩:=hob;refine⟨hl,?_⟩;rcases hσ:σ k with _ | ⟨_ |b,es',cap⟩
    ·rw [hσ] at h;exact h
    ·rw [hσ] at h;exact h
    ·rw [hσ] at h;obtain⟨e1,e2,arr,ty,e3,e4,e5⟩:=h;refine⟨e1,e2,arr,ty,e3,e4,λi x c y hx hy=>?_⟩;obtain⟨u,q1,q2,q3⟩:=e5 i x c y hx hy;exact⟨u,q1,q2,q3.mono (bZ.refl _ _) (λb _ h=>kX hobs h) λ_ _=>rfl⟩
   ·obtain⟨hl,hg⟩:=sB h3;obtain⟨b,e1,arr,ty,e3,e4,e5⟩:=hob;refine⟨b,by rw [e1,hl],arr,ty,e3,by rw [e4,hl],λc y hy=>?_⟩;obtain⟨x,hx,hxy⟩:=hg c y hy;obtain⟨u,q1,q2,q3⟩:=e5 c x hx;exact⟨u,q1,q2,aKO hR hobs hxy q3⟩
   ·subst h3;obtain⟨b,e1,es,ck,e3,e4,e5⟩:=hob;refine⟨b,e1,es,ck,e3,e4,λi p hp=>?_⟩;obtain⟨en,q1,q2,q3⟩:=e5 i p hp;exact⟨en,q1,q2,q3.mono (bZ.refl _ _) (λb _ h=>kX hobs h) λ_ _=>rfl⟩
   ·subst h3;exact hob
   ·rename_i xs es rows;obtain⟨rfl,rfl,hf⟩:=h3;obtain⟨b,e1,arr,ty,e3,e4,e5⟩:=hob;refine⟨λx hx=>by rw [List.mem_singleton.1 hx],?_⟩;rw [e1];refine⟨rfl,⟨by simp,by omega⟩,arr,(ty,false),e3,by rw [Nat.one_mul,e4];exact zJ _,λi x c y hx hy=>?_⟩
    cases i with
    |succ i=>simp at hx
    |zero=> simp only [zE,zse] at hx;subst hx;obtain⟨u,q1,q2,q3⟩:=e5 c y hy;exact⟨u,by rw [Nat.zero_mul,Nat.zero_add];exact q1,q2,(aV q3 (List.all_eq_true.1 hf y (zG hy))).mono (bZ.refl _ _) (λb _ h=>kX hobs h) λ_ _=>rfl⟩
   ·cases h3
  ·exact⟨by simp,by simp [qI,h1,hj]⟩
 inj:=λj j' o o' b es cap es' cap' hj hj' hs hs'=>by
  rw [eG,if_pos (zQ _),zM] at hj hj';rcases(iP hobs).2 j o hj with ⟨k,p,h1,h2,h3⟩| ⟨h1,es1,rfl⟩
  ·rcases(iP hobs).2 j' o' hj' with ⟨k',p',h1',h2',h3'⟩| ⟨h1',es1,rfl⟩
   ·simp only [qI,h1] at hs;simp only [qI,h1'] at hs';obtain rfl:=hR.inj k k' p p' b es cap es' cap' h2 h2' hs hs';exact aFX hnd j j' k h1 h1'
   ·simp [qI,h1',hj'] at hs'
  ·simp [qI,h1,hj] at hs
 fresh:=λj hj=>by have hlen:=(iP hobs).1;refine⟨by rw [eG,if_pos (zQ _),zM,zO (by omega)],?_⟩;simp [qI,zO (show ids.length<=j by omega)]
 disj:=λb hb hu=>by obtain⟨j,k,p,es,cap,-,h2,h3⟩:=jA hobs hb;exact hR.disj b ⟨k,p,es,cap,h2,h3⟩ hu
 ulim:=hR.ulim
 gl:=hR.gl.less λb h=>kX hobs h
end
end Go.Sk
namespace Go.Sk
open Go Go.RowKit
variable [gD]
def mT:V->(V->Prop)->Prop
 | .any,K=>K .any
 | .int k n,K=>K (.int k n)
 | .bool b,K=>K (.bool b)
 | .str s,K=>K (.str s)
 | .agg cs,K=>K (.agg cs)
 | .tup cs,K=>K (.tup cs)
 | .nil,K=>K .nil
 | .ptr k i c,K=>K (.ptr k i c)
 | .rp es cs c,K=>K (.rp es cs c)
 | .sl k off len,K=>K (.sl k off len)
 | .slx k off len,K=>K (.slx k off len)
 | .slk k off len c,K=>K (.slk k off len c)
 | .lst es t xs,K=>K (.lst es t xs)
 | .fn f cs,K=>K (.fn f cs)
 | .mp k,K=>K (.mp k)
 | .val v,K=>K (.val v)
theorem iN(v:V)(K:V->Prop):mT v K=K v:=by cases v <;> rfl
def jG:List V->(List V->Prop)->Prop
 | [],K=>K []
 |v::r,K=>mT v λv=>jG r λr=>K (v::r)
theorem fQ:∀(l:List V) (K:List V->Prop),jG l K=K l
 | [],_=>rfl
 |v::r,K=>by simp only [jG,iN,fQ r]
def dD:aD->(aD->Prop)->Prop
 | [],K=>K []
 | (j,.row es xs)::r,K=>dD r λr'=>K ((j,.row es xs)::r')
 | (j,.box cs)::r,K=>jG cs λcs=>dD r λr'=>K ((j,.box cs)::r')
 | (j,.mp xs)::r,K=>dD r λr'=>K ((j,.mp xs)::r')
 | (j,.bb l)::r,K=>dD r λr'=>K ((j,.bb l)::r')
theorem eF:∀(S:aD) (K:aD->Prop),dD S K=K S
 | [],_=>rfl
 | (j,.row es xs)::r,K=>by simp only [dD,eF r]
 | (j,.box cs)::r,K=>by simp only [dD,fQ,eF r]
 | (j,.mp xs)::r,K=>by simp only [dD,eF r]
 | (j,.bb l)::r,K=>by simp only [dD,eF r]
def aLJ:aW->Nat->(aW->Prop)->Prop
 | [],_,K=>K []
 | (j,q)::r,d,K=>match Nat.beq d j with
   |true=>aLJ r d K
   |false=>aLJ r d λr'=>K ((j,q)::r')
theorem aEY:∀(l:aW) (d:Nat) (K:aW->Prop),aLJ l d K=K (aH5 l d)
 | [],_,_=>rfl
 | (j,q)::r,d,K=>by
   simp only [aLJ,aH5]
   cases h:Nat.beq d j with
   |true=>rw [if_pos (zI h)];exact aEY r d K
   |false=>rw [if_neg (zH h)];exact aEY r d _
def aS1:aW->Nat->SV->(aW->Prop)->Prop
 | [],d,s,K=>K [(d,s)]
 | (j,q)::r,d,s,K=>match Nat.beq d j with
   |true=>aLJ r d λr'=>K ((d,s)::r')
   |false=>aS1 r d s λr'=>K ((j,q)::r')
theorem aND:∀(l:aW) (d:Nat) (s:SV) (K:aW->Prop),aS1 l d s K=K (aDK l d s)
 | [],_,_,_=>rfl
 | (j,q)::r,d,s,K=>by
   simp only [aS1,aDK]
   cases h:Nat.beq d j with
   |true=>rw [if_pos (zI h)];exact aEY r d _
   |false=>rw [if_neg (zH h)];exact aND r d s _
def aAO(l:aW)(d:Option Nat)(s:SV)(K:aW->Prop):Prop:=
 match d with
 |some d=>aS1 l d s K
 |none=>K l
theorem qF(l:aW)(d:Option Nat)(s:SV)(K:aW->Prop):aAO l d s K=K (rV l d s):=by
 cases d with
 |none=>rfl
 |some d=>exact aND l d s K
def cD:Nat->Nat->Nat->(Nat->Prop)->Prop
 |0,_,n,K=>K n
 |f+1,i,n,K=>match Nat.beq n i with
  |true=>K i
  |false=>cD f (i+1) n K
theorem dL:∀(f i n:Nat) (K:Nat->Prop),cD f i n K=K n
 |0,_,_,_=>rfl
 |f+1,i,n,K=>by
  simp only [cD]
  cases h:Nat.beq n i with
  |true=>rw [zI h]
  |false=>exact dL f (i+1) n K
def cZ:List Nat->(List Nat->Prop)->Prop
 | [],K=>K []
 |k::r,K=>cZ r λr'=>K (k::r')
theorem fP:∀(l:List Nat) (K:List Nat->Prop),cZ l K=K l
 | [],_=>rfl
 |k::r,K=>by simp only [cZ,fP r]
def qV:aW->(aW->Prop)->Prop
 | [],K=>K []
 | (d,⟨ch,gc,v⟩)::r,K=>mT v λv=>qV r λr'=>K ((d,⟨ch,gc,v⟩)::r')
theorem mS:∀(l:aW) (K:aW->Prop),qV l K=K l
 | [],_=>rfl
 | (d,⟨ch,e,v⟩)::r,K=>by simp only [qV,iN,mS r]
def qW(sl:aW)(g:Option (Nat×Bool))(K:List (Nat×Bool)->Bool->Prop):Prop:=
 match g with
 |none=>K [] true
 |some (gd,b)=>match dY sl gd with
  |some ⟨ch,gc,v⟩=>(match v with
   | .bool x=>(match ch,b with
     | [],true=>K [(gd,true)] x
     | [],false=>K [(gd,false)] (!x)
     |c::r,true=>K ((gd,true)::c::r) (gc&&x)
     |c::r,false=>K ((gd,false)::c::r) (gc&& !x))
   | .any=>(match ch,gc with
     |c::r,false=>K ((gd,b)::c::r) false
     |_,_=>False)
   |_=>False)
  |none=>False
theorem mH(sl:aW)(g:Option (Nat×Bool))(K:List (Nat×Bool)->Bool->Prop):qW sl g K=match guardOf sl g with
 |none=>False
 |some (ch,e)=>K ch e:=by
 cases g with
 |none=>rfl
 |some p=>
  obtain⟨f,b⟩:=p;simp only [qW,guardOf]
  cases h:dY sl f with
  |none=>rfl
  |some s=> obtain⟨ch,e,v⟩:=s;cases v <;> first |rfl | (cases ch <;> cases b <;> rfl)| (cases ch <;> cases e <;> rfl)
end Go.Sk
namespace Go.Sk
open Go Go.RowKit
variable [gD]
theorem aV7 {op:BinOp} {k:IntKind} {a b:Int} {e:Bool} {K:V->Prop} (h:aDE op k a b e K):∃v,K v/\aDE op k a b e λf=>f=v:=by
 cases op <;> simp only [aDE] at h⊢<;> first |exact⟨_,h,rfl⟩|exact⟨_,h.2,h.1,rfl⟩
theorem aK0 {S:aD} {i:I} {e:A->V} {j:Bool} {K:V->Prop} (h:gF S i e j K):∃v,K v/\gF S i e j λm=>m=v:=by
 revert h;unfold gF
 repeat' split
 all_goals intro h
 all_goals first
  |exact h.elim
  | (obtain⟨v,f,h2⟩:=aV7 h.2;exact⟨v,f,h.1,h2⟩)
  | (obtain⟨r,f,h2⟩:=sN h;exact⟨_,f,pN (λr' e=>by subst e;rfl) h2⟩)
  |exact⟨_,h,rfl⟩
  |exact⟨_,h.2,h.1,rfl⟩
  |exact⟨_,h.2.2,h.1,h.2.1,rfl⟩
theorem aSE {S:aD} {n:Nat} {i:I} {e:A->V} {K:V->aD->Nat->Prop} (h:oR S n i e K):∃v f m,K v f m/\oR S n i e λa b c=>a=v/\b=f/\c=m:=by
 revert h;unfold oR
 repeat' split
 all_goals intro h
 all_goals first
  |exact h.elim
  |exact⟨_,_,_,h,rfl,rfl,rfl⟩
  |exact⟨_,_,_,h.2,h.1,rfl,rfl,rfl⟩
  |exact⟨_,_,_,h.2.2,h.1,h.2.1,rfl,rfl,rfl⟩
  |exact⟨_,_,_,h.2.2.2,h.1,h.2.1,h.2.2.1,rfl,rfl,rfl⟩
  |exact⟨_,_,_,h.2.2.2.2,h.1,h.2.1,h.2.2.1,h.2.2.2.1,rfl,rfl,rfl⟩
  |exact⟨_,_,_,h.2.2.2.2.2,h.1,h.2.1,h.2.2.1,h.2.2.2.1,h.2.2.2.2.1,rfl,rfl,rfl⟩
  |exact⟨_,_,_,h.2.2.2.2.2.2,h.1,h.2.1,h.2.2.1,h.2.2.2.1,h.2.2.2.2.1,h.2.2.2.2.2.1,rfl,rfl,rfl⟩
  | (obtain⟨j,h2,z⟩:=h
     revert z
     repeat' split
     all_goals intro h
     all_goals first
      |exact h.elim
      |exact⟨_,_,_,h.2.2,j,h2,h.1,h.2.1,rfl,rfl,rfl⟩
      |exact⟨_,_,_,h.2.2.2.2.2,j,h2,h.1,h.2.1,h.2.2.1,h.2.2.2.1,h.2.2.2.2.1,rfl,rfl,rfl⟩)
theorem aM7 {P:Program} {st:St} {ch:List (Nat×Bool)} {B:Bool} {i:I} {K:V->aD->Nat->Prop} (h:mV P st ch B i K):
 ∃v S n,K v S n/\mV P st ch B i λa b c=>a=v/\b=S/\c=n:=by
 have Y:∀i,mV P st ch B i K->(∀K,mV P st ch B i K=gF st.so i (bM st.sl ch) B λv=>K v st.so st.nx)->∃v S n,K v S n/\mV P st ch B i λa b c=>a=v/\b=S/\c=n:=by intro i h M;rw [M] at h;obtain⟨v,m,h2⟩:=aK0 h;exact⟨v,_,_,m,by rw [M];simpa using h2⟩
 have F:∀i,mV P st ch B i K->(∀K,mV P st ch B i K=lX st.sl st.so st.nx ch B i K)->∃v S n,K v S n/\mV P st ch B i λa b c=>a=v/\b=S/\c=n:=by
  intro i h M;rw [M] at h;unfold lX at h
  cases ch with
  |nil=> obtain⟨v,S,n,m,h2⟩:=aSE h;exact⟨v,S,n,m,by rw [M];exact h2⟩
  |cons g r=>
   cases B with
   |true=> obtain⟨v,S,n,m,h2⟩:=aSE (h.1 rfl);exact⟨v,S,n,m,by rw [M];exact⟨λ_=>h2,(by intro h;cases h)⟩⟩
   |false=>exact⟨_,_,_,h.2 rfl,by rw [M];exact⟨(by intro h;cases h),λ_=>⟨rfl,rfl,rfl⟩⟩⟩
 cases i with
 |pick c a b=>
  cases c with
  |c v=>exact Y _ h λ_=>rfl
  |t tc=>
   simp only [mV,dG] at h⊢;split at h
   ·split at h
    ·exact⟨_,_,_,h,rfl,rfl,rfl⟩
    ·split at h
     ·exact⟨_,_,_,h,rfl,rfl,rfl⟩
     ·exact⟨_,_,_,h,rfl,rfl,rfl⟩
   ·exact⟨_,_,_,h.2,h.1,rfl,rfl,rfl⟩
 |build z ps=>
  simp only [mV,dG] at h⊢;split at h
  ·rename_i cs Z;exact⟨_,_,_,h.2,h.1,rfl,rfl,rfl⟩
  ·exact h.elim
 |call f xs=>
  simp only [mV,dG] at h⊢;rcases h with ⟨j,m,h2,C⟩| ⟨G,H⟩| ⟨G,H⟩| ⟨G,H⟩
  ·exact⟨_,_,_,C,.inl ⟨j,m,h2,rfl,rfl,rfl⟩⟩
  ·cases B with
   |false=>exact⟨_,_,_,H rfl,.inr ⟨(λh=>by cases h),λ_=>⟨rfl,rfl,rfl⟩⟩⟩
   |true=> obtain⟨L,D,E,j,m,h2,C,h5,Q,R⟩:=G rfl;exact⟨_,_,_,R,.inr ⟨λ_=>⟨L,D,E,j,m,h2,C,h5,Q,rfl,rfl,rfl⟩,(λh=>by cases h)⟩⟩
  ·cases B with
   |false=>exact⟨_,_,_,H rfl,.frz ⟨(λh=>by cases h),λ_=>⟨rfl,rfl,rfl⟩⟩⟩
   |true=> obtain⟨O,j,m,h2,C⟩:=G rfl;exact⟨_,_,_,C,.frz ⟨λ_=>⟨O,j,m,h2,rfl,rfl,rfl⟩,(λh=>by cases h)⟩⟩
  ·cases B with
   |false=>exact⟨_,_,_,H rfl,.mov ⟨(λh=>by cases h),λ_=>⟨rfl,rfl,rfl⟩⟩⟩
   |true=> obtain⟨L,D,E,j,m,h2,C,h4,h5⟩:=G rfl;exact⟨_,_,_,h5,.mov ⟨λ_=>⟨L,D,E,j,m,h2,C,h4,rfl,rfl,rfl⟩,(λh=>by cases h)⟩⟩
 |vcall x xs=>
  simp only [mV,dG] at h⊢;split at h
  ·rename_i f W hx;obtain⟨J,h⟩:=h;rcases h with ⟨j,m,h2,C⟩| ⟨G,H⟩| ⟨G,H⟩| ⟨G,H⟩
   ·exact⟨_,_,_,C,J,.inl ⟨j,m,h2,rfl,rfl,rfl⟩⟩
   ·cases B with
    |false=>exact⟨_,_,_,H rfl,J,.inr ⟨(λh=>by cases h),λ_=>⟨rfl,rfl,rfl⟩⟩⟩
    |true=> obtain⟨L,D,E,j,m,h2,C,h5,Q,R⟩:=G rfl;exact⟨_,_,_,R,J,.inr ⟨λ_=>⟨L,D,E,j,m,h2,C,h5,Q,rfl,rfl,rfl⟩,(λh=>by cases h)⟩⟩
   ·cases B with
    |false=>exact⟨_,_,_,H rfl,J,.frz ⟨(λh=>by cases h),λ_=>⟨rfl,rfl,rfl⟩⟩⟩
    |true=> obtain⟨O,j,m,h2,C⟩:=G rfl;exact⟨_,_,_,C,J,.frz ⟨λ_=>⟨O,j,m,h2,rfl,rfl,rfl⟩,(λh=>by cases h)⟩⟩
   ·cases B with
    |false=>exact⟨_,_,_,H rfl,J,.mov ⟨(λh=>by cases h),λ_=>⟨rfl,rfl,rfl⟩⟩⟩
    |true=> obtain⟨L,D,E,j,m,h2,C,h4,h5⟩:=G rfl;exact⟨_,_,_,h5,J,.mov ⟨λ_=>⟨L,D,E,j,m,h2,C,h4,rfl,rfl,rfl⟩,(λh=>by cases h)⟩⟩
  ·exact⟨_,_,_,h.2,h.1,rfl,rfl,rfl⟩
 |clr a b c=>exact F _ h λ_=>rfl
 |alloc z=>exact F _ h λ_=>rfl
 |box z=>exact F _ h λ_=>rfl
 |st a b c=>exact F _ h λ_=>rfl
 |mkmap a=>exact F _ h λ_=>rfl
 |mput a b c=>exact F _ h λ_=>rfl
 |mputp a b c=>exact F _ h λ_=>rfl
 |bslice a b c d=>exact F _ h λ_=>rfl
 |mk a b c d e=>exact F _ h λ_=>rfl
 |app a b c d=>exact F _ h λ_=>rfl
 |cpy a b c=>exact F _ h λ_=>rfl
 |s2b a=>exact F _ h λ_=>rfl
 |aslc a b c=>exact F _ h λ_=>rfl
 |cpys a b=>exact F _ h λ_=>rfl
 |_=>exact Y _ h λ_=>rfl
def look(sl:aW):List Nat->aW
 | []=> []
 |d::r=>match dY sl d with
  |some s=>(d,s)::look sl r
  |none=>look sl r
theorem lR {sl:aW} :∀ {l:List Nat} {d:Nat} {s:SV},(d,s)∈look sl l->d∈l/\dY sl d=some s
 | [],_,_,h=>by simp [look] at h
 |a::r,d,s,h=>by
  simp only [look] at h;split at h
  ·rename_i q e;rcases List.mem_cons.1 h with h |h
   ·obtain⟨rfl,rfl⟩:=Prod.mk.inj h;exact⟨by simp,e⟩
   ·exact⟨zD _ (lR h).1,(lR h).2⟩
  ·exact⟨zD _ (lR h).1,(lR h).2⟩
def iG(S:aD):List Nat->aD
 | []=> []
 |k::r=>match S.get k with
  |some o=>(k,o)::iG S r
  |none=>iG S r
theorem jU {S:aD} :∀ {l:List Nat} {k:Nat},(iG S l).get k=if k∈l then S.get k else none
 | [],k=>by simp [iG,aD.get]
 |a::r,k=>by
  simp only [iG];split
  ·rename_i o e;simp only [aD.get]
   by_cases h:k=a
   ·subst h;simp [e]
   ·rw [if_neg h,jU];simp [h]
  ·rename_i e;rw [jU]
   by_cases h:k=a
   ·subst h;simp [e]
   ·simp [h]
theorem aCK {S e:aD} :∀ {l:List Nat},(∀k∈l,e.get k=S.get k)->iG e l=iG S l
 | [],_=>rfl
 |a::r,h=>by simp only [iG];rw [h a (by simp),aCK λd f=>h d (zD _ f)]
def aAK(S S1:aD):List Nat->aD
 | []=>S
 |k::r=>match S1.get k with
  |some o=>(aAK S S1 r).set k o
  |none=>(aAK S S1 r).del k
theorem nF {S S1:aD} :∀ {l:List Nat} {k:Nat},(aAK S S1 l).get k=if k∈l then S1.get k else S.get k
 | [],k=>by simp [aAK]
 |a::r,k=>by
  simp only [aAK];split
  ·rename_i o e;rw [aD.get_set,nF]
   by_cases h:k=a
   ·subst h;simp [e]
   ·simp [h]
  ·rename_i e;rw [aD.get_del,nF]
   by_cases h:k=a
   ·subst h;simp [e]
   ·simp [h]
theorem aP.congr {U:Nat->Prop} {σ:Sg} {S f:aD} {w:World} {n:Nat} (h:∀k,f.get k=S.get k)(e:aP U σ S w n):aP U σ f w n:=by
 have E:∀b,Own U σ f b↔Own U σ S b:=λb=>by unfold Own eV;simp only [h]
 have B:∀b,eV σ f b↔eV σ S b:=λb=>by unfold eV;simp only [h]
 have m:Own U σ f=Own U σ S:=funext λb=>propext (E b)
 exact⟨λk o C=>by rw [m];exact e.obj k o (by rw [<-h];exact C),λk G o H b es cap z j D h2=>e.inj k G o H b es cap z j (by rw [<-h];exact D) (by rw [<-h];exact h2),
  λk C=>by rw [h];exact e.fresh k C,λb F=>e.disj b ((B b).1 F),e.ulim,by rw [m];exact e.gl⟩
theorem aP.wider {U:Nat->Prop} {σ:Sg} {S:aD} {w:World} {n f:Nat} (h:n<=f)(e:aP U σ S w n):aP U σ S w f:= ⟨e.obj,e.inj,λk j=>e.fresh k (by omega),e.disj,e.ulim,e.gl⟩
def Uf(U:Nat->Prop)(σ:Sg)(S:aD)(T:List Nat)(b:Nat):Prop:=U b\/∃k o es cap,k∉T/\S.get k=some o/\σ k=some (some b,es,cap)
section
variable {U:Nat->Prop} {σ:Sg} {S:aD} {w:World} {n:Nat} {T:List Nat}
theorem aO1 {b:Nat} (h:Own (Uf U σ S T) σ (iG S T) b):Own U σ S b:=by
 rcases h with (f | ⟨k,o,es,cap,-,h2,e⟩)| ⟨k,o,es,cap,h2,e⟩
 ·exact .inl f
 ·exact .inr ⟨k,o,es,cap,h2,e⟩
 ·rw [jU] at h2;split at h2
  ·exact .inr ⟨k,o,es,cap,h2,e⟩
  ·cases h2
theorem kR.less {O O':Nat->Prop} (G:∀b,O' b->O b) {f:Option (Option Nat×Nat×Nat)} {o:Obj} (h:kR O w σ f o):kR O' w σ f o:=by
 have g0:∀ {σ x v},VR O w σ x v->VR O' w σ x v:=λh=>h.mono (bZ.refl _ _) (λb _ H=>G b H) λ_ _=>rfl
 cases o with
 |row es xs=>
  obtain⟨J,h⟩:=h;refine⟨J,?_⟩;rcases f with _ | ⟨_ |b,F,cap⟩
  ·exact h
  ·exact h
  ·obtain⟨rfl,e1,e,D,j,m,z⟩:=h;refine⟨rfl,e1,e,D,j,m,λi x c y M C=>?_⟩;obtain⟨v,q1,q2,B⟩:=z i x c y M C;exact⟨v,q1,q2,g0 B⟩
 |box Q=> obtain⟨b,rfl,e,D,j,m,z⟩:=h;refine⟨b,rfl,e,D,j,m,λc y C=>?_⟩;obtain⟨v,q1,q2,B⟩:=z c y C;exact⟨v,q1,q2,g0 B⟩
 |mp xs=> obtain⟨b,rfl,es,E,j,m,z⟩:=h;refine⟨b,rfl,es,E,j,m,λi p K=>?_⟩;obtain⟨en,q1,q2,B⟩:=z i p K;exact⟨en,q1,q2,g0 B⟩
 |bb l=>exact h
theorem aP.part(j:aP U σ S w n)(T:List Nat):aP (Uf U σ S T) σ (iG S T) w n:=by
 have hg:∀k o,(iG S T).get k=some o->k∈T/\S.get k=some o:=λk o h=>by
  rw [jU] at h;split at h
  ·rename_i z;exact⟨z,h⟩
  ·cases h
 refine⟨λk o z=>(j.obj k o (hg k o z).2).less λb=>aO1,λk B o C b es cap f e D h2=>j.inj k B o C b es cap f e (hg k o D).2 (hg B C h2).2,λk z=>⟨?_,(j.fresh k z).2⟩,λb F m=>?_,λb m=>?_,j.gl.less λb=>aO1⟩
 ·rw [jU,(j.fresh k z).1];simp
 ·obtain⟨k,o,es,cap,D,h2⟩:=F;rcases m with m | ⟨B,C,f,e,E,h4,h5⟩
  ·exact j.disj b ⟨k,o,es,cap,(hg k o D).2,h2⟩ m
  ·obtain rfl:=j.inj k B o C b es cap f e (hg k o D).2 h4 h2 h5;exact E (hg k o D).1
 ·rcases m with m | ⟨B,C,f,e,E,h4,h5⟩
  ·exact j.ulim b m
  ·exact j.size ⟨B,C,f,e,h4,h5⟩
theorem aP.whole(Y:aP U σ S w n) {σ':Sg} {S1 S2:aD} {w':World} {R:Nat->Prop} (hT:∀k∈T,R k)(ac:∀k,R k->k∉T->S.get k=Option.none)(aa:∀k,R k->S2.get k=S1.get k)
 (Q:∀k,¬R k->S2.get k=S.get k/\σ' k=σ k/\S1.get k=Option.none) (g:bJ σ (iG S T) w n σ' S1 w' n) (J:aP (Uf U σ S T) σ' S1 w' n):
 bJ σ S w n σ' S2 w' n/\aP U σ' S2 w' n/\∀b,Own U σ' S2 b->Own (Uf U σ S T) σ' S1 b:=by
 have C:∀b,eV σ (iG S T) b->∃k o es cap,k∈T/\S.get k=some o/\σ k=some (some b,es,cap):=by
  rintro b ⟨k,o,es,cap,f,h2⟩;rw [jU] at f;split at f
  ·rename_i m;exact⟨k,o,es,cap,m,f,h2⟩
  ·cases f
 have e:∀k o,S2.get k=some o->(S.get k=some o/\k∉T/\σ' k=σ k)\/S1.get k=some o:=by
  intro k o m
  by_cases h:R k
  ·rw [aa k h] at m;exact .inr m
  ·obtain⟨f,h2,-⟩:=Q k h;rw [f] at m;exact .inl ⟨m,λhm=>h (hT k hm),h2⟩
 have g2:bJ σ S w n σ' S2 w' n:=by
  refine⟨g.keep.wider λb Z=>by obtain⟨k,o,es,cap,-,h2,H⟩:=C b Z;exact⟨k,o,es,cap,h2,H⟩,λb Z hO=>?_,g.sg,zJ _⟩;obtain⟨k,o,es,cap,m,E⟩:=hO;rcases e k o m with ⟨f,-,h2⟩|f
  ·exact⟨k,o,es,cap,f,h2▸E⟩
  ·obtain⟨k,o,es,cap,-,h2,H⟩:=C b (g.own b Z ⟨k,o,es,cap,f,E⟩);exact⟨k,o,es,cap,h2,H⟩
 have W:∀b,Own U σ' S2 b->Own (Uf U σ S T) σ' S1 b:=by
  rintro b (hu | ⟨k,o,es,cap,m,E⟩)
  ·exact .inl (.inl hu)
  ·rcases e k o m with ⟨f,H,h2⟩|f
   ·exact .inl (.inr ⟨k,o,es,cap,H,f,h2▸E⟩)
   ·exact .inr ⟨k,o,es,cap,f,E⟩
 have F:∀b k o es cap,k∉T->S.get k=some o->σ k=some (some b,es,cap)->¬eV σ' S1 b:=by intro b k o es cap m f h2 hO;have Z:=Y.size ⟨k,o,es,cap,f,h2⟩;obtain⟨M,O,B,j,G,z,D⟩:=C b (g.own b Z hO);obtain rfl:=Y.inj k M o O b es cap B j f z h2 D;exact m G
 refine⟨g2,Y.step g2 (λk m=>?_) (λk M o O b es cap B j m G E K=>?_) (λk o m=>?_),W⟩
 ·refine⟨?_,(J.fresh k m).2⟩
  by_cases h:R k
  ·rw [aa k h];exact(J.fresh k m).1
  ·rw [(Q k h).1];exact(Y.fresh k m).1
 ·rcases e k o m with ⟨f,H,h2⟩|f <;> rcases e M O G with ⟨z,ab,D⟩|z
  ·exact Y.inj k M o O b es cap B j f z (h2▸E) (D▸K)
  ·exact absurd ⟨M,O,B,j,z,K⟩ (F b k o es cap H f (h2▸E))
  ·exact absurd ⟨k,o,es,cap,f,E⟩ (F b M O B j ab z (D▸K))
  ·exact J.inj k M o O b es cap B j f z E K
 ·rcases e k o m with ⟨f,H,h2⟩|f
  ·left;refine⟨f,λb es cap E=>g.keep.block b (Y.size ⟨k,o,es,cap,f,E⟩) λhO=>?_⟩;obtain⟨M,O,B,j,G,z,D⟩:=C b hO;obtain rfl:=Y.inj k M o O b es cap B j f z E D;exact H G
  ·right;exact(J.obj k o f).less W
end
end Go.Sk
namespace Go.Sk
open Go Go.RowKit
variable [gD]
structure Rec where
 m:Nat
 rd:List Nat
 cs:List Nat
 d:Option Nat
 s:SV
 T:List Nat
 ids:List Nat
 S1:aD
def bAW:V->List Nat
 | .ptr k _ _=> [k]
 | .sl k _ _=> [k]
 | .slx k _ _=> [k]
 | .slk k _ _ _=> [k]
 | .mp k=> [k]
 |_=> []
def aQN:List V->List Nat
 | []=> []
 |v::r=>bAW v++aQN r
def pR:V->List Nat
 | .agg cs=>aQN cs
 | .fn _ cs=>aQN cs
 |v=>bAW v
def aHY:aW->List Nat
 | []=> []
 | (_,s)::r=>pR s.v++aHY r
def bP9(i:I)(SL:aW):List Nat:=
 match i with
 | .mv _=> []
 | .faddr _ _=> []
 | .extr _ _=> []
 |_=>aHY SL
def bAX(S:aD):List Nat->List Nat
 | []=> []
 |k::r=>match S.get k with
  |some (.box cs)=>aQN cs++bAX S r
  |_=>bAX S r
def sU(i:I)(SL:aW)(S:aD):List Nat:=
 match i with
 | .call _ _=>aHY SL++bAX S (aHY SL)
 | .vcall _ _=>aHY SL++bAX S (aHY SL)
 |i=>bP9 i SL
def aT:A->List Nat
 | .t n=> [n]
 | .c _=> []
def aTs:List A->List Nat
 | []=> []
 |a::r=>aT a++aTs r
def aNI:I->List Nat
 | .mv x=>aT x | .pick c a b=>aT c++aT a++aT b | .un _ x=>aT x | .bin _ x y=>aT x++aT y | .conv _ x=>aT x | .nilck x=>aT x | .faddr _ x=>aT x
 | .fget _ _ _ x=>aT x | .ld _ _ x=>aT x | .st _ x y=>aT x++aT y | .iaddr _ x i=>aT x++aT i | .iarr _ _ x i=>aT x++aT i | .aidx _ x i=>aT x++aT i
 | .slc _ x lo hi=>aT x++(match lo with |some l=>aT l |none=> [])++(match hi with |some l=>aT l |none=> [])
 | .eqb _ x y=>aT x++aT y | .eqs _ _ x y=>aT x++aT y
 | .len x=>aT x | .mx x y=>aT x++aT y | .mn x y=>aT x++aT y | .extr _ x=>aT x
 | .build _ ps=>aTs (ps.map λp=>p.2.2)
 | .alloc _=> [] | .box x=>aT x | .bslice _ _ _ ps=>aTs (ps.map λp=>p.2)| .mk _ _ _ l c=>aT l++aT c | .app _ _ x y=>aT x++aT y | .cpy _ x y=>aT x++aT y
 | .mkmap _=> [] | .mget _ _ x i=>aT x++aT i | .mput x i y=>aT x++aT i++aT y | .mgetp _ _ x i=>aT x++aT i | .mputp x i y=>aT x++aT i++aT y
 | .call _ xs=>aTs xs
 | .vcall x xs=>aT x++aTs xs
 | .clr _ _ x=>aT x
 | .slen x=>aT x | .sidx x i=>aT x++aT i | .scat x y=>aT x++aT y | .sqs _ x y=>aT x++aT y | .b2s x=>aT x | .s2b x=>aT x | .cpys x y=>aT x++aT y
 | .aslc _ x hi=>aT x++(match hi with |some l=>aT l |none=> [])
 | .ssl x lo hi=>aT x++(match lo with |some l=>aT l |none=> [])++(match hi with |some l=>aT l |none=> [])
 | .slc3 _ x lo hi mx=>aT x++(match lo with |some l=>aT l |none=> [])++aT hi++aT mx
 | .isnil _ x=>aT x
 | .mkfn _ xs=>aTs xs
 | .bad=> []
def gsl:Option (Nat×Bool)->List Nat
 |none=> []
 |some (g,_)=> [g]
def chT:List (Nat×Bool)->List Nat
 | []=> []
 | (g,_)::r=>g::chT r
def chs:aW->List Nat
 | []=> []
 | (_,s)::r=>chT s.ch++chs r
def wrI(SL:aW)(T:List Nat)(m n1:Nat):I->List Nat
 | .st _ x _=>pR (bM SL [] x)
 | .cpy _ x _=>pR (bM SL [] x)
 | .clr _ _ x=>pR (bM SL [] x)
 | .mput x _ _=>pR (bM SL [] x)
 | .mputp x _ _=>pR (bM SL [] x)
 | .cpys x _=>pR (bM SL [] x)
 | .aslc _ x _=>pR (bM SL [] x)
 | .call f _=>match Nat.beq n1 m with
   |true=> []
   |false=>match iO f gD.ro with
    |true=> []
    |false=>T
 |_=>match Nat.beq n1 m with
  |true=> []
  |false=>T
def aFU(m:Nat):aD->List Nat
 | []=> []
 | (k,_)::r=>match Nat.ble m k with
   |true=>k::aFU m r
   |false=>aFU m r
def aBM(T:List Nat)(m:Nat):aD->Bool
 | []=>true
 | (k,_)::r=>(iO k T||(Nat.ble m k&&Nat.blt k (m+16)))&&aBM T m r
def qA:Option Nat->List Nat->Bool
 |none,_=>true
 |some d,l=> !iO d l
def aIN(SO S1:aD)(W:List Nat):List Nat->Prop
 | []=>True
 |k::r=>match iO k W with
  |true=>aIN SO S1 W r
  |false=>S1.get k=SO.get k/\aIN SO S1 W r
def aCZ(SO S1:aD)(W:List Nat)(K:Prop):List Nat->Prop
 | []=>K
 |k::r=>match iO k W with
  |true=>aCZ SO S1 W K r
  |false=>S1.get k=SO.get k/\aCZ SO S1 W K r
theorem rK {e S1:aD} {W:List Nat} {K:Prop} :∀ {T:List Nat},aCZ e S1 W K T->aIN e S1 W T/\K
 | [],h=>⟨trivial,h⟩
 |k::r,h=>by
  simp only [aCZ,aIN] at h⊢;split at h
  ·exact rK h
  ·exact⟨⟨h.1,(rK h.2).1⟩,(rK h.2).2⟩
def aEL(n:Nat):List Nat->Bool
 | []=>true
 |k::r=>Nat.blt k n&&aEL n r
def aHD:List Nat->List Nat->Bool
 | [],_=>true
 |k::r,l=>iO k l&&aHD r l
def aHP:List Nat->List Nat->Bool
 | [],_=>true
 |k::r,l=> !iO k l&&aHP r l
def aEP(m:Nat):List Nat->Bool
 | []=>true
 |k::r=>(Nat.blt k m||Nat.ble (m+16) k)&&aEP m r
def aEZ(P:Program):St->Nat->Option Nat->Option (Nat×Bool)->I->(Rec->St->Prop)->Prop
 | ⟨ssl,sso,snx⟩,m,d,g,i,K=>
 cZ (gsl g++aNI i) λrds=>qV (look ssl rds) λSL=>qW SL g λch gc=>cZ (sU i SL sso) λT=>dD (iG sso T) λSO=>cZ (gsl g++chs SL) λG=>
  dG P SL SO m ch gc i λv S1 n1=>mT v λv=>dD S1 λS1=>cZ (wrI SL T m n1 i) λW=>cZ (W++aFU m S1) λids=>
   (aBM T m S1&&(qA d G&&(aEL (m+16) ids&&(aHD W T&&(aHD (chT ch) G&&(aEP m T&&Nat.ble n1 (m+16)))))))=true/\aCZ SO S1 W
   (aAO ssl d ⟨ch,gc,v⟩ λsl=>dD (aAK sso S1 ids) λso=>K ⟨m,rds++G,chT ch,d,⟨ch,gc,v⟩,T,ids,S1⟩ ⟨sl,so,snx⟩) T
def mP(P:Program):List iM->List Nat->St->(List Rec->St->Prop)->Prop
 | [],[],st,K=>K [] st
 | ⟨d,g,i⟩::r,m::ms,st,K=>aEZ P st m d g i λrc st'=>mP P r ms st' λrs st''=>K (rc::rs) st''
 |_,_,_,_=>False
def indep(r r':Rec):Bool:= qA r.d r'.rd&&(qA r'.d r.rd&&((match r.d,r'.d with |some a,some b=> !Nat.beq a b |_,_=>true)&&(aHP r.ids r'.T&&(aHP r.ids r'.ids&&(aHP r'.ids r.T&&aEP r.m r'.ids)))))
def aDP(r:Rec)(i:Nat):List Rec->List (List Nat)->Bool
 |r'::rs,a::an=>(bif iO i a then qA r'.d r.cs else indep r r')&&aDP r i rs an
 |_,_=>true
def mO:List Rec->List (List Nat)->Nat->Bool
 |r::rs,_::an,i=>aDP r i rs an&&mO rs an (i+1)
 |_,_,_=>true
theorem aF8 {d:Nat} {l:List Nat} (h:(!iO d l)=true):d∉l:=λe=>by rw [gL.2 e] at h;simp at h
theorem nD {d:Option Nat} {l:List Nat} (h:qA d l=true):∀x∈l,d≠some x:=by intro x f e;subst e;exact aF8 h f
theorem vB {n:Nat} :∀ {l:List Nat},aEL n l=true->∀k∈l,k<n
 | [],_,k,h=>by simp at h
 |a::r,h,k,e=>by
  simp only [aEL,zF] at h;rcases List.mem_cons.1 e with rfl |e
  ·exact zC h.1
  ·exact vB h.2 k e
theorem mK:∀ {l l':List Nat},aHD l l'=true->∀k∈l,k∈l'
 | [],_,_,k,h=>by simp at h
 |a::r,l',h,k,e=>by
  simp only [aHD,zF] at h;rcases List.mem_cons.1 e with rfl |e
  ·exact gL.1 h.1
  ·exact mK h.2 k e
theorem qR:∀ {l l':List Nat},aHP l l'=true->∀k∈l,k∉l'
 | [],_,_,k,h=>by simp at h
 |a::r,l',h,k,e=>by
  simp only [aHP,zF] at h;rcases List.mem_cons.1 e with rfl |e
  ·exact aF8 h.1
  ·exact qR h.2 k e
theorem vD {m:Nat} :∀ {l:List Nat},aEP m l=true->∀k∈l,¬(m<=k/\k<m+16)
 | [],_,k,h=>by simp at h
 |a::r,h,k,e=>by
  simp only [aEP,zF,zN] at h;rcases List.mem_cons.1 e with rfl |e
  ·rcases h.1 with h |h
   ·have :=zC h;omega
   ·have :=zC h;omega
  ·exact vD h.2 k e
theorem oH {T:List Nat} {m:Nat} :∀ {S:aD},aBM T m S=true->∀k o,S.get k=some o->k∈T\/(m<=k/\k<m+16)
 | [],_,k,o,h=>by simp [aD.get] at h
 | (j,p)::r,h,k,o,e=>by
   simp only [aBM,zF,zN] at h;simp only [aD.get] at e;split at e
   ·rename_i z;subst z;rcases h.1 with h | ⟨f,h2⟩
    ·exact .inl (gL.1 h)
    ·exact .inr ⟨zC f,zC h2⟩
   ·exact oH h.2 k o e
theorem pZ {m:Nat} :∀ {S:aD} {k:Nat},k∈aFU m S↔m<=k/\∃o,S.get k=some o
 | [],k=>by simp [aFU,aD.get]
 | (j,p)::r,k=>by
   simp only [aFU,aD.get];split
   ·rename_i e;have :=zC e;rw [List.mem_cons,pZ]
    by_cases h:k=j
    ·subst h;simp [this]
    ·simp [h]
   ·rename_i e;rw [pZ]
    by_cases h:k=j
    ·subst h;have :¬m<=k:=λf=>by rw [Nat.ble_eq_true_of_le f] at e;cases e
     simp [this]
    ·simp [h]
theorem vV {j S1:aD} {W:List Nat} :∀ {T:List Nat},aIN j S1 W T->∀k∈T,k∉W->S1.get k=j.get k
 | [],_,k,h,_=>by simp at h
 |a::r,h,k,e,f=>by
  simp only [aIN] at h;split at h
  ·rename_i m;rcases List.mem_cons.1 e with rfl |e
   ·exact absurd (gL.1 m) f
   ·exact vV h k e f
  ·rcases List.mem_cons.1 e with rfl |e
   ·exact h.1
   ·exact vV h.2 k e f
theorem aAD {x:Nat×Bool} :∀ {l:List (Nat×Bool)},x∈l->x.1∈chT l
 | (g,b)::r,h=>by
   rcases List.mem_cons.1 h with rfl |h
   ·simp [chT]
   ·exact zD _ (aAD h)
theorem aQT {p:Nat×SV} :∀ {l:aW},p∈l->∀x∈p.2.ch,x.1∈chs l
 | (d,s)::r,h,x,e=>by
   simp only [chs,List.mem_append];rcases List.mem_cons.1 h with rfl |h
   ·exact .inl (aAD e)
   ·exact .inr (aQT h x e)
structure aH3 [pI](U:Nat->Prop)(N:Nat)(σ:Sg)(gs:Nat->Option SV)(S:aD)(n:Nat)(act:Act)(w:World):Prop where
 rel:aP U σ S w n
 sz:act.tmps.size=N
 df:act.defers=pI.ds
 sl:∀d s,gs d=some s->uT (Own U σ S) w σ act.tmps s (act.tmps.getD d undef)
theorem aW8 {l:aW} {d:Nat} {s:SV} :∀t,dY (aDK l d s) t=if t=d then some s else dY l t:=by
 have f:∀(l:aW) (t:Nat),t≠d->dY (aH5 l d) t=dY l t:=by
  intro l t e
  induction l with
  |nil=>rfl
  |cons p r m=>
   obtain⟨j,q⟩:=p;simp only [aH5,dY];split
   ·rename_i h;subst h;rw [if_neg e];exact m
   ·simp only [dY,m]
 induction l with
 |nil=>intro t;simp only [aDK,dY]
 |cons p r m=>
  obtain⟨j,q⟩:=p;intro t;simp only [aDK];split
  ·rename_i h;subst h;simp only [dY]
   by_cases e:t=d
   ·simp [e]
   ·rw [if_neg e,if_neg e,if_neg e];exact f r t e
  ·rename_i h;simp only [dY,m]
   by_cases e:t=j
   ·subst e;rw [if_pos rfl,if_pos rfl,if_neg (Ne.symm h)]
   ·rw [if_neg e,if_neg e]
theorem aLZ {l:aW} {d:Option Nat} {s:SV} (t:Nat):dY (rV l d s) t=if d=some t then some s else dY l t:=by
 cases d with
 |none=>simp [rV]
 |some d=>
  simp only [rV,aW8,zse]
  by_cases h:t=d
  ·rw [if_pos h,if_pos h.symm]
  ·rw [if_neg h,if_neg (Ne.symm h)]
def Loc [pI](P:Program)(N:Nat)(n:Nat)(ops:Array Oper)(o:Oper)(r:Rec)(SL:aW)(SO:aD):Prop:=
 ∀(U:Nat->Prop) (σ:Sg) (gs:Nat->Option SV) (S:aD) (act:Act) (w:World) (next:Act->World->Prop) (Q:Exit->Act->World->Prop),aH3 U N σ gs S n act w->(∀d s,(d,s)∈SL->gs d=some s)->iG S r.T=SO->
  (∀i,i<16->S.get (r.m+i)=none/\σ (r.m+i)=none)->(∀t s,gs t=some s->∀x∈s.ch,r.d≠some x.1)->
  (∀σ' cv w',aH3 U N σ' (λt=>if r.d=some t then some r.s else gs t) (aAK S r.S1 r.ids) n (act.put r.d cv) w'->bJ σ S w n σ' (aAK S r.S1 r.ids) w' n->(∀k,¬(r.m<=k/\k<r.m+16)->σ' k=σ k)->next (act.put r.d cv) w')->
  if Region.wanted o (yielded ops act.tmps) then o.wp P act w next Q else next (act.put o.dst undef) w
structure aPY(r:Rec)(m0:Nat):Prop where
 m:r.m=m0
 ids:∀k∈r.ids,k<m0+16
 ids':∀k∈r.ids,k∈r.T\/(m0<=k/\k<m0+16)
 cs:∀x∈r.s.ch,x.1∈r.cs/\x.1∈r.rd
section
variable {P:Program} {N n:Nat}
theorem aT2 [pI] {st:St} {m:Nat} {d:Option Nat} {g:Option (Nat×Bool)} {i:I} {K:Rec->St->Prop} (h:aEZ P st m d g i K) {ops:Array Oper} {o:Oper} (hi:aU4 P o.op=some i)(hg:aU3 ops N o.guard=some g)(hd:aU2 N o.dst=some d)(hn:m+16<=n):
 ∃r,K r ⟨rV st.sl r.d r.s,aAK st.so r.S1 r.ids,st.nx⟩/\r.d=d/\aPY r m/\∃z,(∀d s,(d,s)∈z->d∈r.rd/\dY st.sl d=some s)/\Loc P N n ops o r z (iG st.so r.T):=by
 obtain⟨ssl,j,az⟩:=st;simp only [aEZ,fP,mS,mH] at h;simp only;obtain⟨z,ai⟩:∃z,z=look ssl (gsl g++aNI i):=⟨_,rfl⟩;rw [<-ai] at h;split at h
 ·exact h.elim
 ·rename_i ch gc ao;obtain⟨SO,aj⟩:∃SO,SO=iG j (sU i z j):=⟨_,rfl⟩;simp only [eF] at h;rw [<-aj] at h;obtain⟨v,S1,n1,h1,h2⟩:=aM7 (st:=⟨z,SO,m⟩) h;simp only [iN,eF,fP,qF,zF] at h1;obtain⟨⟨k1,k2,k3,k4,k5,k6,k7⟩,av⟩:=h1;obtain⟨ag,hK⟩:=rK av;have ay:=zC k7;refine⟨_,hK,rfl,⟨rfl,vB k3,λk f=>?_,λx Y=>⟨aAD Y,zP _ (mK k5 _ (aAD Y))⟩⟩,z,λd s M=>?_,?_⟩
  ·rcases List.mem_append.1 f with f |f
   ·exact .inl (mK k4 k f)
   ·obtain⟨ap,o,ho⟩:=pZ.1 f;exact oH k1 k o ho
  ·subst ai;exact⟨List.mem_append_left _ (lR M).1,(lR M).2⟩
  ·
   rw [<-aj];intro U σ gs S act w next Q hrel aw D C ak O;have W:=hrel.rel.part (sU i z j);simp only at D C ak O;rw [D] at W
   have ae:bE (Uf U σ S (sU i z j)) N σ ⟨z,SO,n⟩ act w:=by
    refine⟨W,hrel.sz,hrel.df,λt s M=>?_⟩;have :=hrel.sl t s (aw t s M);have ab:∀ {x v},VR (Own U σ S) w σ x v->VR (Own (Uf U σ S (sU i z j)) σ SO) w σ x v:=λh=>h.mono (bZ.refl _ _) (λb _ hb=>aO1 (T:=sU i z j) (by rw [D];exact hb)) λ_ _=>rfl;unfold uT at this⊢;split
    ·rename_i J;rw [J] at this;exact ab this
    ·rename_i gg r J;rw [J] at this;exact⟨this.1,λhh=>⟨(this.2.1 hh).1,ab (this.2.1 hh).2⟩,this.2.2⟩
   have au:∀x∈ch,x.1∈gsl g++chs z:=λx Y=>mK k5 _ (aAD Y);refine aAB (P:=P) ae (m:=m) (show m<=n by omega) (λi hi=>⟨?_,(C i hi).2⟩) hi hg hd ao (G:=gsl g++chs z) (λd s M x Y=>zP _ (aQT M x Y)) (λd' Z M=>nD k2 d' M Z) au h2 ?_
   ·rw [<-D,jU,(C i hi).1];simp
   ·rintro σ' v' E aa cv w' ⟨rfl,rfl,rfl⟩ ax H gr-hσ;have ar:max n aa=n:=by omega
    simp only at H gr;rw [ar] at H gr
    have hR:∀k,k∈(wrI z (sU i z j) m aa i++aFU m E)->k∈sU i z j\/(m<=k/\k<m+16):=λk f=>by
     rcases List.mem_append.1 f with f |f
     ·exact .inl (mK k4 k f)
     ·obtain⟨ap,o,ho⟩:=pZ.1 f;exact oH k1 k o ho
    have hw:=hrel.rel.whole (T:=sU i z j) (σ':=σ') (S1:=E) (S2:=aAK S E (wrI z (sU i z j) m aa i++aFU m E)) (w':=w') (R:=λk=>k∈sU i z j\/(m<=k/\k<m+16)) (λk f=>.inl f)
     (λk f hn=>by
      rcases f with f |f
      ·exact absurd f hn
      ·have :=(C (k-m) (by omega)).1;rwa [show m+(k-m)=k by omega] at this)
     (λk f=>by
      rw [nF];split
      ·rfl
      ·rename_i ad;simp only [List.mem_append,not_or] at ad
       by_cases hT:k∈sU i z j
       ·rw [vV ag k hT ad.1,<-D,jU,if_pos hT]
       ·rcases f with f |f
        ·exact absurd f hT
        ·have h0:=(C (k-m) (by omega)).1;rw [show m+(k-m)=k by omega] at h0;rw [h0]
         cases af:E.get k with
         |none=>rfl
         |some o=>exact absurd (pZ.2 ⟨f.1,o,af⟩) ad.2)
     (λk f=>by
      refine⟨by rw [nF,if_neg λM=>f (hR k M)],?_,?_⟩
      ·simp only [not_or] at f;exact hσ k f.2
      ·cases af:E.get k with
       |none=>rfl
       |some o=>exact absurd (oH k1 k o af) f)
     (by rw [D];exact gr) H.rel
    obtain⟨g2,r2,o2⟩:=hw;refine O σ' cv w' ⟨r2,H.sz,H.df,λt s ht=>?_⟩ g2 hσ
    have al:∀d',d=some d'->d'<N:=λd' Z=>by
     unfold aU2 at hd;split at hd
     ·obtain rfl:=zsi hd;cases Z
     ·split at hd
      ·rename_i aq;obtain rfl:=zsi hd;obtain rfl:=zsi Z;exact aq
      ·cases hd
    split at ht
    ·rename_i ah;obtain rfl:=zsi ht;have M:(t,(⟨ch,gc,v'⟩:SV))∈rV z d ⟨ch,gc,v'⟩:=by rw [ah];exact gK (by rw [aLZ,if_pos rfl])
     have :=H.sl t _ M;have ac:∀ {x v},VR (Own (Uf U σ S (sU i z j)) σ' E) w' σ' x v->VR (Own U σ' (aAK S E (wrI z (sU i z j) m aa i++aFU m E))) w' σ' x v:=λh=>h.mono (bZ.refl _ _) (λb _ hb=>o2 b hb) λ_ _=>rfl;unfold uT at this⊢;split
     ·rename_i J;rw [J] at this;exact ac this
     ·rename_i gg r J;rw [J] at this;exact⟨this.1,λhh=>⟨(this.2.1 hh).1,ac (this.2.1 hh).2⟩,this.2.2⟩
    ·rename_i ah;have B:=hrel.sl t s ht
     have am:(act.put d cv).tmps.getD t undef=act.tmps.getD t undef:=by
      cases d with
      |none=>rfl
      |some d=>rw [lT (by rw [hrel.sz];exact al d rfl),if_neg (λe=>ah (by rw [e]))]
     have F:∀x∈s.ch,(holds (act.put d cv).tmps x↔holds act.tmps x):=λx Y=>by
      have :=ak t s ht x Y
      cases d with
      |none=>exact Iff.rfl
      |some d=> unfold holds;rw [lT (by rw [hrel.sz];exact al d rfl),if_neg (λe=>this (by rw [e]))]
     rw [am];unfold uT at B⊢;split
     ·rename_i J;rw [J] at B;exact B.grow g2
     ·rename_i gg r J;rw [J] at B F;exact⟨λhh=>B.1 ((F gg (by simp)).1 hh),λhh=>⟨λx Y=>(F x Y).2 ((B.2.1 hh).1 x Y),(B.2.1 hh).2.grow g2⟩,B.2.2⟩
end
end Go.Sk
