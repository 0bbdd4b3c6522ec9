/- Caches. -/
import Derived.Test.YtmhapcbjjpadnaaGreatK3b
import Derived.Deep.LoopGhost
import Derived.Orders
set_option linter.all false
open Array renaming getD_eq_getD_getElem?→zK,getElem?_map→zT
open Bool renaming and_eq_true→zF,or_eq_true→zN
open List renaming mem_cons_of_mem→zD,getElem?_cons_zero→zE,mem_of_getElem?→zG,getElem?_eq_getElem→zL,getElem?_eq_none→zO,mem_append_right→zP,mem_singleton→zS,getElem?_map→zU
open Nat renaming le_of_ble_eq_true→zC,ne_of_beq_eq_false→zH,eq_of_beq_eq_true→zI,le_refl→zJ,sub_zero→zM,zero_le→zQ
open Option renaming map_eq_some_iff→zA
namespace Go.Sk
open Go Go.RowKit
variable [gH]
class Dfr where
 ds:List Deferred
structure SV where
 ch:List (Nat×Bool)
 gc:Bool
 v:V
abbrev bD:=List (Nat×SV)
def fL:bD->Nat->Option SV
 | [],_=>none
 | (j,s)::r,d=>if d=j then some s else fL r d
def aFE:bD->Nat->bD
 | [],_=> []
 | (j,s)::r,d=>if d=j then aFE r d else(j,s)::aFE r d
def aF6:bD->Nat->SV->bD
 | [],d,s=> [(d,s)]
 | (j,q)::r,d,s=>if d=j then(d,s)::aFE r d else(j,q)::aF6 r d s
def aB8(l:bD):Option Nat->SV->bD
 |some d,s=>aF6 l d s
 |none,_=>l
theorem jJ:∀ {l:bD} {d:Nat} {s:SV},fL l d=some s->(d,s)∈l
 | [],_,_,h=>by simp [fL] at h
 | (j,q)::r,d,s,h=>by
   simp only [fL] at h
   split at h
   ·rename_i hd;obtain rfl:=Option.some.inj h;subst hd;simp
   ·exact zD _ (jJ h)
theorem aED:∀ {l:bD} {d:Nat} {p:Nat×SV},p∈aFE l d->p.1≠d/\p∈l
 | [],_,_,h=>by simp [aFE] at h
 | (j,q)::r,d,p,h=>by
   simp only [aFE] at h
   split at h
   ·have :=aED h;exact⟨this.1,zD _ this.2⟩
   ·rename_i hd
    rcases List.mem_cons.1 h with rfl |h
    ·exact⟨Ne.symm hd,by simp⟩
    ·have :=aED h;exact⟨this.1,zD _ this.2⟩
theorem vP:∀ {l:bD} {d:Nat} {s:SV} {p:Nat×SV},p∈aF6 l d s->p=(d,s)\/(p.1≠d/\p∈l)
 | [],d,s,p,h=>by simp only [aF6,zS] at h;exact .inl h
 | (j,q)::r,d,s,p,h=>by
   simp only [aF6] at h
   split at h
   ·rcases List.mem_cons.1 h with rfl |h
    ·exact .inl rfl
    ·have :=aED h;exact .inr ⟨this.1,zD _ this.2⟩
   ·rename_i hd
    rcases List.mem_cons.1 h with rfl |h
    ·exact .inr ⟨Ne.symm hd,by simp⟩
    ·rcases vP h with h |h
     ·exact .inl h
     ·exact .inr ⟨h.1,zD _ h.2⟩
structure St where
 sl:bD
 so:aD
 nx:Nat
def aTR(g:Nat×Bool):List (Nat×Bool)->Bool
 | []=>false
 |h::t=>(g.1==h.1&&g.2==h.2)||aTR g t
theorem aKC {g:Nat×Bool} :∀ {l:List (Nat×Bool)},aTR g l=true->g∈l
 | [],h=>by simp [aTR] at h
 |a::t,h=>by
  simp only [aTR,zN,zF,beq_iff_eq] at h
  rcases h with ⟨h1,h2⟩|h
  ·have :g=a:=Prod.ext h1 h2
   simp [this]
  ·exact zD _ (aKC h)
def bZ(sl:bD)(ch:List (Nat×Bool)):A->V
 | .c v=>v
 | .t n=>match fL sl n with
   |some s=>match s.ch with
    | []=>s.v
    |g::_=>if aTR g ch then s.v else .any
   |none=>.any
def guardOf(sl:bD):Option (Nat×Bool)->Option (List (Nat×Bool)×Bool)
 |none=>some ([],true)
 |some (gd,b)=>match fL sl gd with
  |some s=>match s.v with
   | .bool x=>some ((gd,b)::s.ch,match s.ch with
     | []=>(if b then x else !x)
     |_::_=>s.gc&&(if b then x else !x))
   | .any=>match s.ch,s.gc with
     |_::_,false=>some ((gd,b)::s.ch,false)
     |_,_=>none
   |_=>none
  |none=>none
structure pV where
 d:Option Nat
 g:Option (Nat×Bool)
 i:I
def qP(P:Program)(f:FuncId)(args:List V)(S:aD)(gc:Bool)(K:V->Prop):Prop:=
 ∃res,(gc=true->(∀v∈args,nM S v)/\aM P f [] (args.map (pur S)) res [])/\(args.all aGI=true\/aBG res=true)/\K res
inductive pU(A B C D:Prop):Prop where
 |inl (h:A)
 |inr (h:B)
 |frz (h:C)
 |mov (h:D)
def fY(P:Program)(f:FuncId):Prop:=∃fn,P.funcs[f]? =some fn∧fn.body.isSome=true∧(fn.name== "runtime.NumGoroutine")=false
def lG(ssl:bD)(sso:aD)(snx:Nat)(ch:List (Nat×Bool))(gc:Bool)(i:I)(K:V->aD->Nat->Prop):Prop:=
 match ch with
 | []=>nZ sso snx i (bZ ssl []) K
 |g::r=>(gc=true->nZ sso snx i (bZ ssl (g::r)) K)/\(gc=false->K .any sso snx)
def dK(P:Program)(ssl:bD)(sso:aD)(snx:Nat)(ch:List (Nat×Bool))(gc:Bool)(i:I)(K:V->aD->Nat->Prop):Prop:=
 match i with
 | .pick (.t tc) a b=>match bZ ssl ch (.t tc) with
   | .bool x=>match bZ ssl ((tc,true)::ch) a,bZ ssl ((tc,false)::ch) b with
     | .bool p,.bool q=>K (.bool (bif x then p else q)) sso snx
     |u,v=>match x with
      |true=>K u sso snx
      |false=>K v sso snx
   |_=>gc=false/\K .any sso snx
 | .build z ps=>match aBP z (ps.map λp=>(p.1,p.2.1,bZ ssl ch p.2.2)) with
   |some cs=>z.all oJ=true/\K (.agg cs) sso snx
   |none=>False
 | .call f xs=>pU (qP P f (xs.map (bZ ssl ch)) sso gc λv=>K v sso snx) ((gc=true->oO P f (xs.map (bZ ssl ch)) sso snx K)/\(gc=false->K .any sso snx)) ((gc=true->rX P f (xs.map (bZ ssl ch)) sso snx K)/\(gc=false->K .any sso snx)) ((gc=true->sG P f (xs.map (bZ ssl ch)) sso snx K)/\(gc=false->K .any sso snx))
 | .vcall x xs=>match bZ ssl ch x with
   | .fn f caps=>fY P f/\pU (qP P f (xs.map (bZ ssl ch)++caps) sso gc λv=>K v sso snx) ((gc=true->oO P f (xs.map (bZ ssl ch)++caps) sso snx K)/\(gc=false->K .any sso snx)) ((gc=true->rX P f (xs.map (bZ ssl ch)++caps) sso snx K)/\(gc=false->K .any sso snx)) ((gc=true->sG P f (xs.map (bZ ssl ch)++caps) sso snx K)/\(gc=false->K .any sso snx))
   |_=>gc=false/\K .any sso snx
 | .clr es z x=>lG ssl sso snx ch gc (.clr es z x) K
 | .alloc z=>lG ssl sso snx ch gc (.alloc z) K
 | .box x=>lG ssl sso snx ch gc (.box x) K
 | .st m x y=>lG ssl sso snx ch gc (.st m x y) K
 | .mkmap ks=>lG ssl sso snx ch gc (.mkmap ks) K
 | .s2b x=>lG ssl sso snx ch gc (.s2b x) K
 | .aslc n x h=>lG ssl sso snx ch gc (.aslc n x h) K
 | .cpys x y=>lG ssl sso snx ch gc (.cpys x y) K
 | .mput x i y=>lG ssl sso snx ch gc (.mput x i y) K
 | .mputp x i y=>lG ssl sso snx ch gc (.mputp x i y) K
 | .bslice es z m ps=>lG ssl sso snx ch gc (.bslice es z m ps) K
 | .mk es by_ z l c=>lG ssl sso snx ch gc (.mk es by_ z l c) K
 | .app es by_ x y=>lG ssl sso snx ch gc (.app es by_ x y) K
 | .cpy es x y=>lG ssl sso snx ch gc (.cpy es x y) K
 |i=>fU sso i (bZ ssl ch) gc λv=>K v sso snx
def mU(P:Program)(st:St)(ch:List (Nat×Bool))(gc:Bool)(i:I)(K:V->aD->Nat->Prop):Prop:=dK P st.sl st.so st.nx ch gc i K
def vU(P:Program):List pV->St->(St->Prop)->Prop
 | [],st,K=>K st
 | ⟨d,g,i⟩::r,st,K=>match guardOf st.sl g with
   |some (ch,gc)=>mU P st ch gc i λv S n=>vU P r ⟨aB8 st.sl d ⟨ch,gc,v⟩,S,n⟩ K
   |none=>False
def aPZ(P:Program):Op->Option I
 | .call { callee:=.value (.func f),args,.. } =>match P.funcs[f]? with
   |some fn=>if fn.body.isSome=true∧(fn.name== "runtime.NumGoroutine")=false then(args.toList.mapM bP).map (.call f) else none
   |none=>none
 | .call { callee:=.value (.tmp t),args,.. } =>(args.toList.mapM bP).map (.vcall (.t t))
 |_=>none
def aLB(P:Program)(o:Op):Option I:=
 match aPZ P o with
 |some i=>some i
 |none=>some .bad
def aZQ(P:Program)(o:Op):Option I:=
 match aF0 P o with
 |some i=>some i
 |none=>match bFB P o with
  |some (z,ps)=>some (.build z ps)
  |none=>match aW2 P o with
   |some i=>some i
   |none=>aLB P o
def aS0(ops:Array Oper)(N:Nat):Option (Nat×Bool)->Option (Option (Nat×Bool))
 |none=>some none
 |some (j,b)=>match(ops[j]?).bind (·.dst) with
  |some d=>if d<N then some (some (d,b)) else none
  |none=>none
def aW1(N:Nat):Option Nat->Option (Option Nat)
 |none=>some none
 |some d=>if d<N then some (some d) else none
def dW(P:Program)(ops:Array Oper)(N:Nat):List Oper->Option (List pV)
 | []=>some []
 |o::r=>match aZQ P o.op,aS0 ops N o.guard,aW1 N o.dst,dW P ops N r with
  |some i,some g,some d,some l=>some (⟨d,g,i⟩::l)
  |_,_,_,_=>none
def mK:List Nat->List pV->Bool
 |_,[]=>true
 |G,i::r=>(match i.d with |some d=> !G.contains d |none=>true)&&(match i.g with |some (gd,_)=>(i.d != some gd)&&mK (gd::G) r |none=>mK G r)
def holds(tmps:Array Value)(g:Nat×Bool):Prop:=tmps.getD g.1 undef=.bool g.2
def SVR(O:Nat->Prop)(w:World)(σ:Sg)(tmps:Array Value)(s:SV)(cv:Value):Prop:=
 match s.ch with
 | []=>VR O w σ s.v cv
 |g::r=>(holds tmps g->s.gc=true)/\(s.gc=true->(∀h∈g::r,holds tmps h)/\VR O w σ s.v cv)/\(s.gc=false->cv=undef)
structure cX [Dfr](U:Nat->Prop)(N:Nat)(σ:Sg)(st:St)(act:Act)(w:World):Prop where
 rel:aW U σ st.so w st.nx
 sz:act.tmps.size=N
 df:act.defers=Dfr.ds
 sl:∀d s,(d,s)∈st.sl->SVR (Own U σ st.so) w σ act.tmps s (act.tmps.getD d undef)
def GIn(sl:bD)(G:List Nat):Prop:=∀d s,(d,s)∈sl->∀g∈s.ch,g.1∈G
section
variable {P:Program} {U:Nat->Prop} {N:Nat} {σ:Sg} {st:St} {act:Act} {w:World}
theorem lM [Dfr](h:cX U N σ st act w) {ch:List (Nat×Bool)} (hch:∀g∈ch,holds act.tmps g) {x:Operand} {a:A} (hx:bP x=some a):VR (Own U σ st.so) w σ (bZ st.sl ch a) (act.eval x):=by
 cases x with
 |tmp t=>
  simp only [bP,Option.some.injEq] at hx
  subst hx
  simp only [bZ,Act.eval]
  split
  ·rename_i s hs
   have :=h.sl t s (jJ hs)
   unfold SVR at this
   split
   ·rename_i hc;rw [hc] at this;exact this
   ·rename_i g r hc
    rw [hc] at this
    split
    ·rename_i hg
     exact(this.2.1 (this.1 (hch g (aKC hg)))).2
    ·exact .any _
  ·exact .any _
 |const v=>
  simp only [bP,zA] at hx
  obtain⟨y,hy,rfl⟩:=hx
  exact aO4 hy _ _ _
 |func f=>
  simp only [bP,Option.some.injEq] at hx
  subst hx
  exact .fn rfl (by simp)
 |global g=>
  simp only [bP,zA] at hx
  obtain⟨cs,hg,rfl⟩:=hx
  exact(h.rel.gl g cs hg).lift σ
theorem aQT {op:BinOp} {k:IntKind} {a b:Int} {gc:Bool} {K:V->Prop} (h:aCL op k a b gc K):∃v,K v:=by
 cases op <;> simp only [aCL] at h <;> first |exact⟨_,h⟩|exact⟨_,h.2⟩
theorem aVR {S:aD} {i:I} {e:A->V} {gc:Bool} {K:V->Prop} (h:fU S i e gc K):∃v,K v:=by
 unfold fU at h
 repeat' (first |split at h)
 all_goals first
  |exact h.elim
  |exact aQT h.2
  | (obtain⟨r,h1,-⟩:=rW h;exact⟨_,h1⟩)
  |exact⟨_,h⟩
  |exact⟨_,h.2⟩
  |exact⟨_,h.2.2⟩
theorem sM {a:Act} {d t:Nat} {v:Value} (hd:d<a.tmps.size):(a.put (some d) v).tmps.getD t undef=if t=d then v else a.tmps.getD t undef:=by
 simp only [Act.put,zK]
 by_cases h:t=d
 ·subst h;rw [if_pos rfl,Array.getElem?_setIfInBounds_self_of_lt hd];rfl
 ·rw [if_neg h,Array.getElem?_setIfInBounds_ne (Ne.symm h)]
theorem cX.put [Dfr](h:cX U N σ st act w) {G:List Nat} (hG:GIn st.sl G) {σ':Sg} {S':aD} {w':World} {n':Nat} (g:bV σ st.so w st.nx σ' S' w' n')(hR':aW U σ' S' w' n')
 {d:Option Nat} (hd:∀d',d=some d'->d'<N/\d'∉G) {s:SV} {cv:Value} (hs:∀tmps',(∀g,g.1∈G->(holds tmps' g↔holds act.tmps g))->SVR (Own U σ' S') w' σ' tmps' s cv):
 cX U N σ' ⟨aB8 st.sl d s,S',n'⟩ (act.put d cv) w' where
 rel:=hR'
 sz:=by cases d <;> simp [Act.put,h.sz]
 df:=by cases d <;> simp [Act.put,h.df]
 sl:=λt q hq=>by
  have hkeep:∀g:Nat×Bool,g.1∈G->(holds (act.put d cv).tmps g↔holds act.tmps g):=λg hg=>by
   cases d with
   |none=>exact Iff.rfl
   |some d=>
    obtain⟨h1,h2⟩:=hd d rfl
    unfold holds
    rw [sM (by rw [h.sz];exact h1),if_neg (λ(e:g.1=d)=>h2 (e▸hg))]
  have old:(t,q)∈st.sl->(∀d',d=some d'->t≠d')->SVR (Own U σ' S') w' σ' (act.put d cv).tmps q ((act.put d cv).tmps.getD t undef):=λhm hne=>by
   have hold:=h.sl t q hm
   have hval:(act.put d cv).tmps.getD t undef=act.tmps.getD t undef:=by
    cases d with
    |none=>rfl
    |some d=>rw [sM (by rw [h.sz];exact(hd d rfl).1),if_neg (hne d rfl)]
   rw [hval]
   unfold SVR at hold⊢
   have hgq:=hG t q hm
   split
   ·rename_i hc;rw [hc] at hold;exact hold.grow g
   ·rename_i gg r hc
    rw [hc] at hold hgq
    refine⟨λhh=>hold.1 ((hkeep gg (hgq gg (by simp))).1 hh),λhh=>⟨λx hx=>(hkeep x (hgq x hx)).2 ((hold.2.1 hh).1 x hx),(hold.2.1 hh).2.grow g⟩,hold.2.2⟩
  cases d with
  |none=>exact old hq λd' hd'=>by cases hd'
  |some d=>
   rcases vP hq with hq | ⟨hne,hm⟩
   ·obtain⟨rfl,rfl⟩:=Prod.mk.inj hq
    rw [sM (by rw [h.sz];exact(hd _ rfl).1),if_pos rfl]
    exact hs _ hkeep
   ·exact old hm λd' hd'=>by obtain rfl:=Option.some.inj hd';exact hne
theorem GIn.put {sl:bD} {G:List Nat} (hG:GIn sl G) {d:Option Nat} {s:SV} (hs:∀g∈s.ch,g.1∈G):GIn (aB8 sl d s) G:=by
 intro t q hq
 cases d with
 |none=>exact hG t q hq
 |some d=>
  rcases vP hq with hq | ⟨-,hm⟩
  ·obtain⟨rfl,rfl⟩:=Prod.mk.inj hq;exact hs
  ·exact hG t q hm
theorem uX {ops:Array Oper} {o:Oper} {g:Option (Nat×Bool)} (hg:aS0 ops N o.guard=some g)(hsz:act.tmps.size=N):
 Region.wanted o (yielded ops act.tmps)=true↔∀x,g=some x->holds act.tmps x:=by
 unfold Region.wanted
 cases ho:o.guard with
 |none=>rw [ho] at hg;simp only [aS0,Option.some.injEq] at hg;subst hg;simp
 |some jb=>
  obtain⟨j,b⟩:=jb
  rw [ho] at hg
  simp only [aS0] at hg
  split at hg
  ·rename_i d hd
   split at hg
   ·rename_i hlt
    simp only [Option.some.injEq] at hg
    subst hg
    have hd':d<act.tmps.size:=by rw [hsz];exact hlt
    have hget:act.tmps[d]? =some (act.tmps.getD d undef):=by
     rw [zK,Array.getElem?_eq_getElem hd'];rfl
    simp only [yielded,hd,Option.bind_some,hget,holds,Option.some.injEq,forall_eq']
    constructor
    ·intro h
     split at h
     ·rename_i b' hb
      obtain rfl:b'=b:=by simpa using h
      exact Option.some.inj hb
     ·simp at h
    ·intro h
     rw [h];simp
   ·cases hg
  ·cases hg
theorem aHQ [Dfr](h:cX U N σ st act w) {g:Option (Nat×Bool)} {ch:List (Nat×Bool)} {gc:Bool} (hg:guardOf st.sl g=some (ch,gc)):
 (ch=[]->gc=true/\g=none)/\((∀x,g=some x->holds act.tmps x)->gc=true)/\(gc=true->∀x∈ch,holds act.tmps x)/\(∀x,g=some x->∃r,ch=x::r):=by
 cases g with
 |none=>
  simp only [guardOf,Option.some.injEq,Prod.mk.injEq] at hg
  obtain⟨rfl,rfl⟩:=hg
  simp
 |some gb=>
  obtain⟨gd,b⟩:=gb
  simp only [guardOf] at hg
  split at hg
  ·rename_i s hs
   have hsl:=h.sl gd s (jJ hs)
   unfold SVR at hsl
   split at hg
   ·rename_i x hx
    simp only [Option.some.injEq,Prod.mk.injEq] at hg
    obtain⟨rfl,rfl⟩:=hg
    rw [hx] at hsl
    refine⟨by simp,λhh=>?_,λhh y hy=>?_,λy hy=>⟨s.ch,by rw [<-Option.some.inj hy]⟩⟩
    ·have h1:act.tmps.getD gd undef=.bool b:=hh _ rfl
     split
     ·rename_i hc
      rw [hc] at hsl
      simp only at hsl
      rw [h1] at hsl
      cases hsl
      cases b <;> rfl
     ·rename_i q r hc
      rw [hc] at hsl
      simp only at hsl
      cases hgc:s.gc with
      |false=>have :=hsl.2.2 hgc;rw [h1] at this;cases this
      |true=>
       have :=(hsl.2.1 hgc).2
       rw [h1] at this
       cases this
       cases b <;> rfl
    ·split at hh
     ·rename_i hc
      rw [hc] at hsl hy
      simp only at hsl
      simp only [zS] at hy
      subst hy
      generalize hv:act.tmps.getD gd undef=v at hsl
      cases hsl
      unfold holds
      rw [hv]
      cases b <;> cases x <;> simp_all
     ·rename_i q r hc
      rw [hc] at hsl hy
      simp only at hsl
      simp only [zF] at hh
      obtain⟨k1,k2⟩:=hsl.2.1 hh.1
      rcases List.mem_cons.1 hy with rfl |hy
      ·generalize hv:act.tmps.getD gd undef=v at k2
       cases k2
       unfold holds
       rw [hv]
       have :=hh.2
       cases b <;> cases x <;> simp_all
      ·exact k1 y hy
   ·split at hg
    ·rename_i q r hc hgc
     simp only [Option.some.injEq,Prod.mk.injEq] at hg
     obtain⟨rfl,rfl⟩:=hg
     rw [hc] at hsl
     simp only at hsl
     refine⟨by simp,λhh=>?_,(λhh=>by cases hh),λy hy=>⟨s.ch,by rw [<-Option.some.inj hy]⟩⟩
     have h1:act.tmps.getD gd undef=.bool b:=hh _ rfl
     have :=hsl.2.2 hgc
     rw [h1] at this
     cases this
    ·cases hg
   ·cases hg
  ·cases hg
theorem aS9 {ρ:Operand→Value} {f:FuncId} {fn:Func} {args:Array Operand} {ts:Array TypeId} (hf:P.funcs[f]? =some fn)(hb:fn.body.isSome=true)(hn:(fn.name== "runtime.NumGoroutine")=false)
 (o:Oper) (ho:o.op=.call { callee:=.value (.func f),args,argTypes:=ts }) (hρ:ρ (.func f)=.func (.func f) #[] #[]):(execOp ρ o).run P w=.ok (.enter f (args.map ρ)) w:=by
 have hb':¬fn.body=none:=λh=>by rw [h] at hb;simp at hb
 have hn':¬fn.name= "runtime.NumGoroutine" :=fun h=>by rw [h] at hn;simp at hn
 simp [execOp,ho,resolve,hρ,Deferred.ofValue,invoke,callFunc,hf,hn',hb']
theorem aSA {ρ:Operand->Value} {f:FuncId} {t:Nat} {caps:Array Value} (hc:fY P f) {args:Array Operand} {ts:Array TypeId}
 (o:Oper) (ho:o.op=.call { callee:=.value (.tmp t),args,argTypes:=ts }) (hρ:ρ (.tmp t)=.func (.func f) #[] caps):(execOp ρ o).run P w=.ok (.enter f (args.map ρ++caps)) w:=by
 obtain⟨fn,hf,hb,hn⟩:=hc
 have hb':¬fn.body=none:=λh=>by rw [h] at hb;simp at hb
 have hn':¬fn.name= "runtime.NumGoroutine" :=fun h=>by rw [h] at hn;simp at hn
 simp [execOp,ho,resolve,hρ,Deferred.ofValue,invoke,callFunc,hf,hn',hb']
theorem aGC {l:List Operand} {xs:List A} (h:l.mapM bP=some xs):xs.length=l.length/\∀(i:Nat) x a,l[i]? =some x->xs[i]? =some a->bP x=some a:=by
 induction l generalizing xs with
 |nil=>simp only [List.mapM_nil] at h;obtain rfl:=Option.some.inj h;simp
 |cons y r ih=>
  rw [List.mapM_cons] at h
  cases hy:bP y with
  |none=>rw [hy] at h;cases h
  |some a=>
   rw [hy] at h
   cases hr:r.mapM bP with
   |none=>rw [hr] at h;cases h
   |some as=>
    rw [hr] at h
    obtain rfl:=Option.some.inj h
    obtain⟨h1,h2⟩:=ih hr
    refine⟨by simp [h1],λi x b hx hb=>?_⟩
    cases i with
    |zero=>simp only [zE,Option.some.injEq] at hx hb;subst hx hb;exact hy
    |succ i=>exact h2 i x b (by simpa using hx) (by simpa using hb)
theorem aRE {ch:List (Nat×Bool)} {gc:Bool} {i:I} {K:V->aD->Nat->Prop} (h:mU P st ch gc i K)(hc:ch≠ [])(hgf:gc=false):∃v,K v st.so st.nx:=by
 unfold mU dK at h
 split at h
 ·split at h
  ·split at h
   ·exact⟨_,h⟩
   ·split at h
    ·exact⟨_,h⟩
    ·exact⟨_,h⟩
  ·exact⟨_,h.2⟩
 ·split at h
  ·exact⟨_,h.2⟩
  ·cases h
 ·rcases h with ⟨res,-,-,h⟩|h |h |h
  ·exact⟨_,h⟩
  ·exact⟨_,h.2 hgf⟩
  ·exact⟨_,h.2 hgf⟩
  ·exact⟨_,h.2 hgf⟩
 ·split at h
  ·rcases h.2 with ⟨res,-,-,h⟩|h |h |h
   ·exact⟨_,h⟩
   ·exact⟨_,h.2 hgf⟩
   ·exact⟨_,h.2 hgf⟩
   ·exact⟨_,h.2 hgf⟩
  ·exact⟨_,h.2⟩
 all_goals first
  | (revert h;unfold lG;cases ch with
     |nil=>exact absurd rfl hc
     |cons g r=>intro h;exact⟨_,h.2 hgf⟩)
  |exact aVR h
def aYL:I->Bool
 | .mv _=>true | .un _ _=>true | .bin _ _ _=>true | .conv _ _=>true | .nilck _=>true | .faddr _ _=>true | .fget _ _ _ _=>true | .ld _ _ _=>true
 | .iaddr _ _ _=>true | .iarr _ _ _ _=>true | .aidx _ _ _=>true | .slc3 _ _ _ _ _=>true | .isnil _ _=>true | .mkfn _ _=>true | .slc _ _ _ _=>true | .len _=>true | .eqb _ _ _=>true | .eqs _ _ _ _=>true | .mx _ _=>true | .mn _ _=>true | .extr _ _=>true | .mget _ _ _ _=>true | .mgetp _ _ _ _=>true
 | .slen _=>true | .sidx _ _=>true | .ssl _ _ _=>true | .scat _ _=>true | .sqs _ _ _=>true | .b2s _=>true
 |_=>false
def bDN:I->Bool
 | .alloc _=>true | .box _=>true | .st _ _ _=>true | .bslice _ _ _ _=>true | .mk _ _ _ _ _=>true | .mkmap _=>true | .mputp _ _ _=>true | .mput _ _ _=>true | .app _ _ _ _=>true | .cpy _ _ _=>true | .clr _ _ _=>true | .s2b _=>true | .aslc _ _ _=>true | .cpys _ _=>true
 |_=>false
theorem aYI {ch:List (Nat×Bool)} {gc:Bool} {i:I} (h:aYL i=true)(K:V->aD->Nat->Prop):mU P st ch gc i K=fU st.so i (bZ st.sl ch) gc λv=>K v st.so st.nx:=by
 cases i <;> first |rfl | (simp [aYL] at h)
theorem aYJ {ch:List (Nat×Bool)} {gc:Bool} {i:I} (h:bDN i=true)(K:V->aD->Nat->Prop):mU P st ch gc i K=lG st.sl st.so st.nx ch gc i K:=by
 cases i <;> first |rfl | (simp [bDN] at h)
theorem aNU {o:Op} {i:I} (h:aLD P o=some i):aYL i=true\/∃c a b c' a' b',o=.pick c a b/\i=.pick c' a' b'/\bP c=some c'/\bP a=some a'/\bP b=some b':=by
 unfold aLD at h
 split at h
 case h_3=>
  split at h
  ·rename_i h1 h2 h3
   obtain rfl:=Option.some.inj h
   exact .inr ⟨_,_,_,_,_,_,rfl,rfl,h1,h2,h3⟩
  ·cases h
 all_goals
  left
  first
   | (simp only [zA] at h;obtain⟨a,h1,rfl⟩:=h;rfl)
   |skip
 all_goals
  repeat' (first | (cases h;done)| (obtain rfl:=Option.some.inj h;rfl)| (simp only [zA] at h;obtain⟨a,h1,rfl⟩:=h;rfl)|split at h)
theorem aLE {o:Op} {i:I} (h:aF0 P o=some i):aYL i=true\/∃c a b c' a' b',o=.pick c a b/\i=.pick c' a' b'/\bP c=some c'/\bP a=some a'/\bP b=some b':=by
 unfold aF0 at h
 split at h
 ·rename_i h1;obtain rfl:=Option.some.inj h;exact aNU h1
 ·left
  unfold aZR at h
  split at h
  all_goals
   repeat' (first | (cases h;done)| (obtain rfl:=Option.some.inj h;rfl)| (simp only [zA] at h;obtain⟨a,h1,rfl⟩:=h;rfl)|split at h)
theorem aS2 {o:Op} {i:I} (h:aW2 P o=some i):bDN i=true:=by
 unfold aW2 at h
 split at h
 all_goals
  repeat' (first | (cases h;done)| (obtain rfl:=Option.some.inj h;rfl)| (simp only [zA] at h;obtain⟨a,h1,rfl⟩:=h;rfl)|split at h)
theorem bFM {S:aD} {n:Nat} {i:I} {e:A->V} {K:V->aD->Nat->Prop} (h:nZ S n i e K):nZ S n i e λv S' n'=>n<=n'/\K v S' n':=by
 revert h
 unfold nZ
 repeat' split
 all_goals intro h
 all_goals first
  |exact h.elim
  |exact⟨by omega,h⟩
  |exact⟨h.1,by omega,h.2⟩
  |exact⟨h.1,h.2.1,by omega,h.2.2⟩
  |exact⟨h.1,h.2.1,h.2.2.1,by omega,h.2.2.2⟩
  |exact⟨h.1,h.2.1,h.2.2.1,h.2.2.2.1,by omega,h.2.2.2.2⟩
  |exact⟨h.1,h.2.1,h.2.2.1,h.2.2.2.1,h.2.2.2.2.1,by omega,h.2.2.2.2.2⟩
  |exact⟨h.1,h.2.1,h.2.2.1,h.2.2.2.1,h.2.2.2.2.1,h.2.2.2.2.2.1,by omega,h.2.2.2.2.2.2⟩
  | (obtain⟨h1,h2,h3⟩:=h
     refine⟨h1,h2,?_⟩
     revert h3
     repeat' split
     all_goals intro h
     all_goals first
      |exact h.elim
      |exact⟨h.1,h.2.1,by omega,h.2.2⟩
      |exact⟨h.1,h.2.1,h.2.2.1,h.2.2.2.1,h.2.2.2.2.1,by omega,h.2.2.2.2.2⟩)
theorem aKI [Dfr](h:cX U N σ st act w) {m:Nat} (hmn:m<=st.nx)(hfree:∀i,i<16->st.so.get (m+i)=none/\σ (m+i)=none) {ops:Array Oper} {o:Oper} {i:I} {g:Option (Nat×Bool)} {d:Option Nat} (hi:aZQ P o.op=some i)(hg:aS0 ops N o.guard=some g)(hd:aW1 N o.dst=some d)
 {ch:List (Nat×Bool)} {gc:Bool} (hgu:guardOf st.sl g=some (ch,gc)) {G:List Nat} (hG:GIn st.sl G) (hdG:∀d',d=some d'->d'∉G) (hchG:∀x∈ch,x.1∈G)
 {KF:V->aD->Nat->Prop} (hK:mU P ⟨st.sl,st.so,m⟩ ch gc i KF) {next:Act->World->Prop} {Q:Exit->Act->World->Prop}
 (hnext:∀σ' v S' n1 cv w',KF v S' n1->m<=n1->cX U N σ' ⟨aB8 st.sl d ⟨ch,gc,v⟩,S',max st.nx n1⟩ (act.put d cv) w'->bV σ st.so w st.nx σ' S' w' (max st.nx n1)->GIn (aB8 st.sl d ⟨ch,gc,v⟩) G->(∀k,¬(m<=k/\k<m+16)->σ' k=σ k)->next (act.put d cv) w'):
 if Region.wanted o (yielded ops act.tmps) then o.wp P act w next Q else next (act.put o.dst undef) w:=by
 obtain⟨c1,c2,c3,c4⟩:=aHQ h hgu
 have hdd:o.dst=d/\∀d',d=some d'->d'<N:=by
  unfold aW1 at hd
  split at hd
  ·rename_i h0;obtain rfl:=Option.some.inj hd;exact⟨h0,λ_ h=>by cases h⟩
  ·rename_i d0 h0
   split at hd
   ·rename_i hlt;obtain rfl:=Option.some.inj hd;exact⟨h0,λd' hd'=>by obtain rfl:=Option.some.inj hd';exact hlt⟩
   ·cases hd
 obtain⟨hdst,hdN⟩:=hdd
 have hdNG:∀d',d=some d'->d'<N/\d'∉G:=λd' h=>⟨hdN d' h,hdG d' h⟩
 have hch':∀(s:SV),s.ch=ch->∀g∈s.ch,g.1∈G:=λs hs g hg=>hchG g (hs▸hg)
 rw [hdst]
 by_cases hw:Region.wanted o (yielded ops act.tmps)=true
 ·rw [if_pos hw]
  have hgc:gc=true:=c2 ((uX hg h.sz).1 hw)
  subst hgc
  have hold:=c3 rfl
  have hall:∀x a,bP x=some a->VR (Own U σ st.so) w σ (bZ st.sl ch a) (act.eval x):=λx a hx=>lM h hold hx
  have fin:∀(v:V) (cv:Value) (σ':Sg) (S':aD) (w':World) (n':Nat),KF v S' n'->m<=n'->(∀k,¬(m<=k/\k<m+16)->σ' k=σ k)->VR (Own U σ' S') w' σ' v cv->aW U σ' S' w' (max st.nx n')->bV σ st.so w st.nx σ' S' w' (max st.nx n')->next (act.put d cv) w':=by
   intro v cv σ' S' w' n' hK hmn' hσ hv hR' g
   refine hnext σ' v S' n' cv w' hK hmn' (h.put hG g hR' hdNG λtmps' ht=>?_) g (hG.put (hch' _ rfl)) hσ
   unfold SVR
   split
   ·exact hv
   ·rename_i gg r hc
    refine⟨λ_=>rfl,λ_=>⟨λx hx=>?_,hv⟩,λh=>by cases h⟩
    have hc':ch=gg::r:=hc
    exact(ht x (hchG x (hc'▸hx))).2 (hold x (hc'▸hx))
  have hmx:max st.nx m=st.nx:=by omega
  have rd:gI P U σ st.so w act.eval o.op (λv=>KF v st.so m)->o.wp P act w next Q:=by
   rintro ⟨v,cv,hk,hv,hrun⟩
   unfold Oper.wp
   rw [hrun w o rfl (tT.refl w),Oper.upon_value,hdst]
   exact fin v cv σ st.so w m hk (zJ _) (λ_ _=>rfl) hv (by rw [hmx];exact h.rel) (by rw [hmx];exact bV.refl _ _ _ _)
  have wr:pW P U σ st.so w st.nx m act.eval o.op (λv S n=>m<=n/\KF v S n)->o.wp P act w next Q:=by
   rintro ⟨v,S',n',⟨hge,hk⟩,hrun⟩
   obtain⟨nx,cv,w',σ',h1,h2,hσ,h3,h4,h5⟩:=hrun o rfl
   have hσ':∀k,¬(m<=k/\k<m+16)->σ' k=σ k:=λk hk=>hσ k (by omega)
   unfold Oper.wp
   rw [h1]
   rcases h2 with rfl | ⟨rfl,rfl⟩
   ·rw [Oper.upon_value,hdst];exact fin v cv σ' S' w' n' hk hge hσ' h5 h4 h3
   ·rw [Oper.upon_skip,hdst];exact fin v _ σ' S' w' n' hk hge hσ' h5 h4 h3
  unfold aZQ at hi
  split at hi
  ·rename_i i' hi'
   obtain rfl:=Option.some.inj hi
   rcases aLE hi' with hrd | ⟨c,a,b,c',a',b',ho,rfl,e1,e2,e3⟩
   ·rw [aYI hrd] at hK
    exact rd (aRY hi' (λ_=>rfl) h.rel hall hK)
   ·refine rd ?_
    simp only [mU,dK] at hK
    split at hK
    ·rename_i tc a'' b'' heq
     obtain⟨rfl,rfl,rfl⟩:=I.pick.inj heq
     split at hK
     ·rename_i x hx
      obtain⟨t,rfl⟩:∃t,c=.tmp t:=by
       cases c with
       |tmp t=>exact⟨t,rfl⟩
       |const v=>simp only [bP,zA] at e1;obtain⟨_,_,h⟩:=e1;cases h
       |func f=>simp [bP] at e1
       |global g=>simp only [bP,zA] at e1;obtain⟨_,_,h⟩:=e1;cases h
      obtain rfl:t=tc:=by simpa [bP] using e1
      have hcv:=hall _ _ e1
      rw [hx] at hcv
      generalize hvc:act.eval (.tmp t)=vc at hcv
      cases hcv
      have hgx:holds act.tmps (t,x):=hvc
      have run:∀(w':World) (o':Oper),o'.op=o.op->(execOp act.eval o').run P w'=.ok (.value (if x=true then act.eval a else act.eval b)) w':=by
       intro w' o' ho'
       simp [execOp,ho',ho,hvc,asBool]
      have ha:x=true->VR (Own U σ st.so) w σ (bZ st.sl ((t,true)::ch) a') (act.eval a):=λhx=>lM h (ch:=(t,true)::ch) (λg hg=>by rcases List.mem_cons.1 hg with rfl |hg;exact hx▸hgx;exact hold g hg) e2
      have hb:x=false->VR (Own U σ st.so) w σ (bZ st.sl ((t,false)::ch) b') (act.eval b):=λhx=>lM h (ch:=(t,false)::ch) (λg hg=>by rcases List.mem_cons.1 hg with rfl |hg;exact hx▸hgx;exact hold g hg) e3
      split at hK
      ·rename_i p q hp hq
       cases x with
       |true=>
        have :=ha rfl
        rw [hp] at this
        exact⟨_,act.eval a,hK,this,λw' o' ho' _=>by rw [run w' o' ho'];rfl⟩
       |false=>
        have :=hb rfl
        rw [hq] at this
        exact⟨_,act.eval b,hK,this,λw' o' ho' _=>by rw [run w' o' ho'];rfl⟩
      ·split at hK
       ·exact⟨_,act.eval a,hK,ha rfl,λw' o' ho' _=>by rw [run w' o' ho'];rfl⟩
       ·exact⟨_,act.eval b,hK,hb rfl,λw' o' ho' _=>by rw [run w' o' ho'];rfl⟩
     ·exact absurd hK.1 (by simp)
    all_goals first
     | (rename_i heq;cases heq;done)
     |exact(show False from hK).elim
  ·split at hi
   ·rename_i z ps hb
    obtain rfl:=Option.some.inj hi
    simp only [mU,dK] at hK
    split at hK
    ·rename_i cs hcs
     obtain⟨hz,hK⟩:=hK
     obtain⟨cv,hv,hrun⟩:=aJJ (P:=P) hb hz hall hcs
     exact rd ⟨_,cv,hK,hv,λw' o' ho' _=>hrun w' o' ho'⟩
    ·cases hK
   ·split at hi
    ·rename_i i' hi'
     obtain rfl:=Option.some.inj hi
     rw [aYJ (aS2 hi')] at hK
     unfold lG at hK
     have hK:nZ st.so m i' (bZ st.sl ch) KF:=by
      cases ch with
      |nil=>exact hK
      |cons g r=>exact hK.1 rfl
     exact wr (aWT hi' h.rel (hfree 0 (by omega)) hmn (λx a hx=>lM h hold hx) (bFM hK))
    ·unfold aLB at hi
     split at hi
     case h_2=>obtain rfl:=Option.some.inj hi;exact hK.elim
     rename_i _ ic hic
     obtain rfl:=Option.some.inj hi
     clear hi
     have hi:=hic
     unfold aPZ at hi
     split at hi
     ·rename_i f args ts hop
      split at hi
      ·rename_i fn hfn
       split at hi
       ·rename_i hb
        simp only [zA] at hi
        obtain⟨xs,hxs,rfl⟩:=hi
        simp only [mU,dK] at hK
        obtain⟨hlen,hget⟩:=aGC hxs
        have hargs:∀(i:Nat) v c,(xs.map (bZ st.sl ch))[i]? =some v->(args.map act.eval)[i]? =some c->VR (Own U σ st.so) w σ v c:=λi v c hv hc=>by
         rw [zU,zA] at hv
         obtain⟨a,ha,rfl⟩:=hv
         rw [zT,zA] at hc
         obtain⟨x,hx,rfl⟩:=hc
         exact hall x a (hget i x a (by simpa using hx) ha)
        unfold Oper.wp
        rw [aS9 hfn hb.1 hb.2 o hop rfl,Oper.upon_enter]
        rcases hK with ⟨res,hf,hbor,hK⟩| ⟨hK,-⟩| ⟨hK,-⟩| ⟨hK,-⟩
        ·obtain⟨hok,hfc⟩:=hf rfl
         refine(aC1 h.rel (args:=xs.map (bZ st.sl ch)) (by simp [hlen]) hargs hok hfc hbor).mono λe w' ⟨cv,he,hv,hkp⟩=>?_
         subst he
         rw [hdst]
         exact fin res cv σ st.so w' m hK (zJ _) (λ_ _=>rfl) hv (by rw [hmx];exact h.rel.of_keep hkp) (by rw [hmx];exact bV.of_keep hkp)
        ·obtain⟨L,ob0,ob1,res,hfc,hlent,hnd,hle,hle2,hK⟩:=hK trivial
         refine(aCF h.rel hfree (args:=xs.map (bZ st.sl ch)) (by simp [hlen]) hargs hfc hlent hnd (zC hle) (zC hle2)).mono λe w' ⟨cv,σ',he,hσ,g,r,hv⟩=>?_
         subst he
         rw [hdst]
         exact fin _ cv σ' _ w' _ hK (by omega) hσ hv r g
        ·obtain⟨Fz,res,hfc,hok,hK⟩:=hK trivial
         refine(aBO h.rel (args:=xs.map (bZ st.sl ch)) (by simp [hlen]) hargs hok hfc).mono λe w' ⟨cv,he,hv,hkp⟩=>?_
         subst he
         rw [hdst]
         have hR1:=(h.rel.frz Fz).of_keep hkp
         have hG1:bV σ st.so w st.nx σ (jG st.so Fz) w' st.nx:=(bV.frz Fz).trans (bV.of_keep hkp)
         exact fin res cv σ _ w' _ hK (by omega) (λ_ _=>rfl) hv ⟨hR1.obj,hR1.inj,λk hk=>hR1.fresh k (by omega),hR1.disj,hR1.ulim,hR1.gl⟩ ⟨hG1.keep,hG1.own,hG1.sg,by omega⟩
        ·obtain⟨L,ob0,ob1,res,hfc,hlent,hnd,hle2,hK⟩:=hK trivial
         refine(aBW h.rel hfree (args:=xs.map (bZ st.sl ch)) (by simp [hlen]) hargs hfc hlent hnd (zC hle2)).mono λe w' ⟨cv,σ',he,hσ,g,r,hv⟩=>?_
         subst he
         rw [hdst]
         exact fin _ cv σ' _ w' _ hK (by omega) hσ hv r g
       ·cases hi
      ·cases hi
     ·rename_i t args ts hop
      simp only [zA] at hi
      obtain⟨xs,hxs,rfl⟩:=hi
      simp only [mU,dK] at hK
      have hfv:=hall (.tmp t) (.t t) rfl
      split at hK
      ·rename_i f caps hcl0
       obtain⟨hcal,hK⟩:=hK
       rw [hcl0] at hfv
       generalize hva:act.eval (.tmp t)=va at hfv
       cases hfv with
       | @fn _ _ _ arr hn0 hcaps=>
       obtain⟨hlen,hget⟩:=aGC hxs
       have hargs:∀(i:Nat) v c,(xs.map (bZ st.sl ch)++caps)[i]? =some v->(args.map act.eval++arr)[i]? =some c->VR (Own U σ st.so) w σ v c:=λi v c hv hc=>by
        rw [List.getElem?_append,List.length_map] at hv
        rw [Array.getElem?_append,Array.size_map] at hc
        have hsz:xs.length=args.size:=by simpa using hlen
        split at hv
        ·rename_i hlt
         rw [if_pos (by omega)] at hc
         rw [zU,zA] at hv
         obtain⟨a,ha,rfl⟩:=hv
         rw [zT,zA] at hc
         obtain⟨x,hx,rfl⟩:=hc
         exact hall x a (hget i x a (by simpa using hx) ha)
        ·rename_i hlt
         rw [if_neg (by omega),<-hsz] at hc
         exact hcaps _ v c hv hc
       have hsz2:(args.map act.eval++arr).size=(xs.map (bZ st.sl ch)++caps).length:=by
        have hsz:xs.length=args.size:=by simpa using hlen
        simp [hsz,hn0]
       unfold Oper.wp
       rw [aSA hcal o hop hva,Oper.upon_enter]
       rcases hK with ⟨res,hf,hbor,hK⟩| ⟨hK,-⟩| ⟨hK,-⟩| ⟨hK,-⟩
       ·obtain⟨hok,hfc⟩:=hf rfl
        refine(aC1 h.rel (args:=xs.map (bZ st.sl ch)++caps) hsz2 hargs hok hfc hbor).mono λe w' ⟨cv,he,hv,hkp⟩=>?_
        subst he
        rw [hdst]
        exact fin res cv σ st.so w' m hK (zJ _) (λ_ _=>rfl) hv (by rw [hmx];exact h.rel.of_keep hkp) (by rw [hmx];exact bV.of_keep hkp)
       ·obtain⟨L,ob0,ob1,res,hfc,hlent,hnd,hle,hle2,hK⟩:=hK trivial
        refine(aCF h.rel hfree (args:=xs.map (bZ st.sl ch)++caps) hsz2 hargs hfc hlent hnd (zC hle) (zC hle2)).mono λe w' ⟨cv,σ',he,hσ,g,r,hv⟩=>?_
        subst he
        rw [hdst]
        exact fin _ cv σ' _ w' _ hK (by omega) hσ hv r g
       ·obtain⟨Fz,res,hfc,hok,hK⟩:=hK trivial
        refine(aBO h.rel (args:=xs.map (bZ st.sl ch)++caps) hsz2 hargs hok hfc).mono λe w' ⟨cv,he,hv,hkp⟩=>?_
        subst he
        rw [hdst]
        have hR1:=(h.rel.frz Fz).of_keep hkp
        have hG1:bV σ st.so w st.nx σ (jG st.so Fz) w' st.nx:=(bV.frz Fz).trans (bV.of_keep hkp)
        exact fin res cv σ _ w' _ hK (by omega) (λ_ _=>rfl) hv ⟨hR1.obj,hR1.inj,λk hk=>hR1.fresh k (by omega),hR1.disj,hR1.ulim,hR1.gl⟩ ⟨hG1.keep,hG1.own,hG1.sg,by omega⟩
       ·obtain⟨L,ob0,ob1,res,hfc,hlent,hnd,hle2,hK⟩:=hK trivial
        refine(aBW h.rel hfree (args:=xs.map (bZ st.sl ch)++caps) hsz2 hargs hfc hlent hnd (zC hle2)).mono λe w' ⟨cv,σ',he,hσ,g,r,hv⟩=>?_
        subst he
        rw [hdst]
        exact fin _ cv σ' _ w' _ hK (by omega) hσ hv r g
      ·exact absurd hK.1 (by simp)
     ·cases hi
 ·rw [if_neg hw]
  have hne:ch≠ []:=λh0=>hw ((uX hg h.sz).2 λx hx=>by rw [(c1 h0).2] at hx;cases hx)
  have hgf:gc=false:=by
   cases hgc:gc with
   |false=>rfl
   |true=>
    refine absurd ((uX hg h.sz).2 λx hx=>?_) hw
    obtain⟨r,hr⟩:=c4 x hx
    exact c3 hgc x (by rw [hr];simp)
  obtain⟨v,hv⟩:=aRE hK hne hgf
  have hmx:max st.nx m=st.nx:=by omega
  refine hnext σ v _ _ undef w hv (zJ _) (h.put hG (by rw [hmx];exact bV.refl _ _ _ _) (by rw [hmx];exact h.rel) hdNG λtmps' ht=>?_) (by rw [hmx];exact bV.refl _ _ _ _) (hG.put (hch' _ rfl)) (λ_ _=>rfl)
  unfold SVR
  split
  ·rename_i hc;exact absurd hc hne
  ·rename_i gg r hc
   refine⟨λhh=>?_,⟨λhg'=>absurd (show gc=true from hg') (by simp [hgf]),λ_=>rfl⟩⟩
   have hc':ch=gg::r:=hc
   have :=(ht gg (hchG gg (by rw [hc'];simp))).1 hh
   cases hgg:g with
   |none=>
    rw [hgg] at hgu
    simp only [guardOf,Option.some.injEq,Prod.mk.injEq] at hgu
    rw [<-hgu.1] at hne;exact absurd rfl hne
   |some x=>
    obtain⟨r',hr'⟩:=c4 x hgg
    rw [hc'] at hr'
    obtain⟨rfl,-⟩:=List.cons.inj hr'
    exact c2 λy hy=>by rw [hgg] at hy;obtain rfl:=Option.some.inj hy;exact this
end
end Go.Sk
namespace Go.Sk
open Go Go.RowKit
variable [gH]
def aE0(k:Nat):List (Option Nat)->Bool
 | []=>false
 |some j::r=>Nat.beq k j||aE0 k r
 |none::r=>aE0 k r
theorem sA:∀ {k:Nat} {l:List (Option Nat)},aE0 k l=false->some k∉l
 |_,[],_=>by simp
 |k,some j::r,h=>by
  simp only [aE0,Bool.or_eq_false_iff] at h
  have h1:k≠j:=zH h.1
  have h2:=sA h.2
  simp [h1,h2]
 |k,none::r,h=>by
  simp only [aE0] at h
  have h2:=sA h
  simp [h2]
def qL:List (Option Nat)->Bool
 | []=>true
 |none::r=>qL r
 |some k::r=> !aE0 k r&&qL r
def vw1(S:aD)(ids:List (Option Nat))(x y:V):Prop:=
 match y with
 | .any=>True
 | .sl j off len=>match x with
   | .sl k off' len'=>ids[j]? =some (some k)/\off'=off/\len'=len
   | .slk k off' len' _=>ids[j]? =some (some k)/\off'=off/\len'=len
   | .lst _ t xs=>ids[j]? =some none/\t=true/\xs=[]/\off=0/\len=0
   |_=>False
 | .slk j off len c=>match x with
   | .slk k off' len' c'=>ids[j]? =some (some k)/\off'=off/\len'=len/\c'=c
   |_=>False
 | .ptr j i c=>match x with
   | .ptr k i' c'=>ids[j]? =some (some k)/\i'=i/\c'=c
   |_=>False
 | .mp j=>match x with
   | .mp k=>ids[j]? =some (some k)
   |_=>False
 | .lst es t xs=>match x with
   | .lst es' t' xs'=>(es'=es\/xs=[])/\(t=true->t'=true)/\xs'=xs
   | .sl k off len=>match S.get k with
     |some (.row es' xs')=>es'=es/\t=false/\off+len<=xs'.length/\(xs'.drop off).take len=xs/\aE0 k ids=false
     |_=>False
   | .slk k off len c=>match S.get k with
     |some (.row es' xs')=>es'=es/\(t=true->c=len)/\off+len<=xs'.length/\(xs'.drop off).take len=xs/\aE0 k ids=false
     |_=>False
   |_=>False
 | .int k m=>match x with
   | .int k' m'=>k'=k/\m'=m
   |_=>False
 | .bool b=>match x with
   | .bool b'=>b'=b
   |_=>False
 | .str s=>x=.str s
 | .nil=>x=.nil
 | .val v=>x=.val v
 | .rp es cs c=>x=.rp es cs c
 |_=>False
def aJD(p:V->V->Prop):List V->List V->Prop
 | [],[]=>True
 |x::xs,y::ys=>p x y/\aJD p xs ys
 |_,_=>False
theorem rL {p:V->V->Prop} :∀ {xs ys:List V},aJD p xs ys->xs.length=ys.length/\∀(i:Nat) y,ys[i]? =some y->∃x,xs[i]? =some x/\p x y
 | [],[],_=>by simp
 | [],_::_,h=>h.elim
 |_::_,[],h=>h.elim
 |x::xs,y::ys,h=>by
  obtain⟨h1,h2⟩:=h
  obtain⟨h3,h4⟩:=rL h2
  refine⟨by simp [h3],λi z hz=>?_⟩
  cases i with
  |zero=>simp only [zE,Option.some.injEq] at hz;subst hz;exact⟨x,rfl,h1⟩
  |succ i=>exact h4 i z (by simpa using hz)
def vw2(S:aD)(ids:List (Option Nat))(x y:V):Prop:=
 match y with
 | .agg ys=>match x with
   | .agg xs=>aJD (vw1 S ids) xs ys
   |_=>False
 | .fn g ys=>match x with
   | .fn f xs=>f=g/\aJD (vw1 S ids) xs ys
   |_=>False
 |y=>vw1 S ids x y
def vw3(S:aD)(ids:List (Option Nat))(x y:V):Prop:=
 match y with
 | .tup ys=>match x with
   | .tup xs=>aJD (vw2 S ids) xs ys
   |_=>False
 |y=>vw2 S ids x y
def aWJ(S:aD)(ids:List (Option Nat))(x y:Obj):Prop:=
 match x,y with
 | .row es xs,.row es' ys=>es=es'/\xs=ys
 | .box xs,.box ys=>aJD (vw1 S ids) xs ys
 | .mp xs,.mp ys=>xs=ys
 | .bb xs,.bb ys=>xs=ys
 | .box xs,.row es rows=>es=xs.length/\rows=[xs]/\xs.all cD=true
 |_,_=>False
def nY(S:aD)(ids:List (Option Nat)):List (Option Nat)->List Obj->Prop
 | [],[]=>True
 |some k::r,o::os=>(match S.get k with |some p=>aWJ S ids p o |none=>False)/\nY S ids r os
 |none::r,o::os=>(match o with | .row _ xs=>xs=[] |_=>False)/\nY S ids r os
 |_,_=>False
def aB0:List (Option Nat)->Prop
 | []=>True
 |none::r=>aB0 r
 |some k::r=>some k∉r/\aB0 r
theorem pI:∀ {l:List (Option Nat)},qL l=true->aB0 l
 | [],_=>trivial
 |none::r,h=>pI (l:=r) h
 |some k::r,h=>by
  simp only [qL,zF,Bool.not_eq_true'] at h
  exact⟨sA h.1,pI h.2⟩
def nF:Nat->Nat->List (Option Nat)->Prop
 |_,0,_=>True
 |i,m+1,some k::r=>k=i/\nF (i+1) m r
 |_,_+1,_=>False
theorem nH:∀(m i:Nat) (ids:List (Option Nat)),nF i m ids->∀j,j<m->ids[j]? =some (some (i+j))
 |0,_,_,_,j,hj=>by omega
 |m+1,i,some k::r,h,j,hj=>by
  obtain⟨rfl,h⟩:=h
  cases j with
  |zero=>rfl
  |succ j=>
   have :=nH m (k+1) r h j (by omega)
   rw [List.getElem?_cons_succ,this]
   congr 2;omega
 |m+1,i,[],h,j,hj=>h.elim
 |m+1,i,none::r,h,j,hj=>h.elim
theorem aEH:∀ {l:List (Option Nat)},aB0 l->∀(i j k:Nat),l[i]? =some (some k)->l[j]? =some (some k)->i=j
 | [],_,i,j,k,h,_=>by simp at h
 |a::r,hn,i,j,k,hi,hj=>by
  have hr:aB0 r:=by cases a <;> first |exact hn |exact hn.2
  cases i with
  |zero=>
   simp only [zE,Option.some.injEq] at hi
   subst hi
   cases j with
   |zero=>rfl
   |succ j=>exact absurd (zG (by simpa using hj)) hn.1
  |succ i=>
   cases j with
   |zero=>
    simp only [zE,Option.some.injEq] at hj
    subst hj
    exact absurd (zG (by simpa using hi)) hn.1
   |succ j=>rw [aEH hr i j k (by simpa using hi) (by simpa using hj)]
theorem iB {S:aD} {ids:List (Option Nat)} :∀ {l:List (Option Nat)} {obs:List Obj},nY S ids l obs->l.length=obs.length/\∀(j:Nat) o,obs[j]? =some o->
 (∃k p,l[j]? =some (some k)/\S.get k=some p/\aWJ S ids p o)\/(l[j]? =some none/\∃es,o=.row es [])
 | [],[],_=>by simp
 | [],_::_,h=>h.elim
 |some _::_,[],h=>h.elim
 |none::_,[],h=>h.elim
 |some k::r,o::os,h=>by
  obtain⟨h1,h2⟩:=h
  obtain⟨h3,h4⟩:=iB h2
  refine⟨by simp [h3],λj q hq=>?_⟩
  cases j with
  |zero=>
   simp only [zE,Option.some.injEq] at hq
   subst hq
   split at h1
   ·rename_i p hp;exact .inl ⟨k,p,rfl,hp,h1⟩
   ·cases h1
  |succ j=>simpa using h4 j q (by simpa using hq)
 |none::r,o::os,h=>by
  obtain⟨h1,h2⟩:=h
  obtain⟨h3,h4⟩:=iB h2
  refine⟨by simp [h3],λj q hq=>?_⟩
  cases j with
  |zero=>
   simp only [zE,Option.some.injEq] at hq
   subst hq
   split at h1
   ·subst h1;exact .inr ⟨rfl,_,rfl⟩
   ·cases h1
  |succ j=>simpa using h4 j q (by simpa using hq)
def rD(σ:Sg)(ids:List (Option Nat))(obs:List Obj):Sg:=λj=>
 match ids[j]? with
 |some (some k)=>σ k
 |some none=>match obs[j]? with
  |some (.row es _)=>some (none,es,0)
  |_=>none
 |none=>none
section
variable {U:Nat->Prop} {σ:Sg} {S:aD} {w:World} {n:Nat} {ids:List (Option Nat)} {obs:List Obj}
theorem kZ(hobs:nY S ids ids obs) {b:Nat} (h:gW (rD σ ids obs) (aN 0 obs) b):∃(j k:Nat) (p:Obj) (es cap:Nat),ids[j]? =some (some k)/\S.get k=some p/\σ k=some (some b,es,cap):=by
 obtain⟨j,o,es,cap,hj,hs⟩:=h
 rw [cY,if_pos (zQ _),zM] at hj
 rcases(iB hobs).2 j o hj with ⟨k,p,h1,h2,h3⟩| ⟨h1,es',rfl⟩
 ·simp only [rD,h1] at hs
  exact⟨j,k,p,es,cap,h1,h2,hs⟩
 ·simp [rD,h1,hj] at hs
theorem jY(hobs:nY S ids ids obs) {b:Nat} (h:Own U (rD σ ids obs) (aN 0 obs) b):Own U σ S b:=
 h.imp id λh=>by obtain⟨j,k,p,es,cap,-,h2,h3⟩:=kZ hobs h;exact⟨k,p,es,cap,h2,h3⟩
theorem aIZ(hR:aW U σ S w n)(hobs:nY S ids ids obs) {x y:V} {v:Value} (h:vw1 S ids x y)(hv:VR (Own U σ S) w σ x v):VR (Own U (rD σ ids obs) (aN 0 obs)) w (rD σ ids obs) y v:=by
 have sub:∀ {x v},VR (Own U σ S) w (λ_=>none) x v->∀σ',VR (Own U (rD σ ids obs) (aN 0 obs)) w σ' x v:=λh σ'=>(h.mono (cU.refl _ _) (λb _ h=>jY hobs h) λ_ _=>rfl:VR _ _ (λ_=>none) _ _).lift σ'
 have hlen:=(iB hobs).1
 unfold vw1 at h
 split at h
 ·exact .any _
 ·split at h
  ·obtain⟨h1,rfl,rfl⟩:=h
   have hσ:∀j k,ids[j]? =some (some k)->rD σ ids obs j=σ k:=λj k h=>by simp [rD,h]
   cases hv with
   |sl hs hle ha=>exact .sl ((hσ _ _ h1).trans hs) hle ha
   |sl0 hs=>exact .sl0 ((hσ _ _ h1).trans hs)
  ·obtain⟨h1,rfl,rfl⟩:=h
   have hσ:∀j k,ids[j]? =some (some k)->rD σ ids obs j=σ k:=λj k h=>by simp [rD,h]
   cases hv with
   |slk hs hle ha hc=>subst hc;exact .sl ((hσ _ _ h1).trans hs) hle ha
   |slk0 hs=>exact .sl0 ((hσ _ _ h1).trans hs)
  ·obtain⟨h1,rfl,rfl,rfl,rfl⟩:=h
   cases hv with
   |lst b o cv ha hes hcap ht hc1 hc3 hc2=>
    have hcap0:=ht rfl
    subst hcap0
    obtain⟨hj,-⟩:=List.getElem?_eq_some_iff.1 h1
    rcases(iB hobs).2 _ _ (zL (hlen▸hj)) with ⟨k,p,h1',-⟩| ⟨-,es,he⟩
    ·rw [h1] at h1';cases h1'
    ·exact .sl0 (es:=es) (by simp [rD,h1,zL (hlen▸hj),he])
  ·cases h
 ·split at h
  ·obtain⟨h1,rfl,rfl,rfl⟩:=h
   have hσ:∀j k,ids[j]? =some (some k)->rD σ ids obs j=σ k:=λj k h=>by simp [rD,h]
   cases hv with
   |slk hs hle ha hc=>exact .slk ((hσ _ _ h1).trans hs) hle ha hc
   |slk0 hs=>exact .slk0 ((hσ _ _ h1).trans hs)
  ·cases h
 ·split at h
  ·obtain⟨h1,rfl,rfl⟩:=h
   have hσ:∀j k,ids[j]? =some (some k)->rD σ ids obs j=σ k:=λj k h=>by simp [rD,h]
   cases hv with
   |ptr hs=>exact .ptr ((hσ _ _ h1).trans hs)
  ·cases h
 ·split at h
  ·have hσ:∀j k,ids[j]? =some (some k)->rD σ ids obs j=σ k:=λj k h=>by simp [rD,h]
   cases hv with
   |mp hs=>exact .mp ((hσ _ _ h).trans hs)
  ·cases h
 ·split at h
  ·obtain⟨h1,h2,rfl⟩:=h
   refine sub ?_ _
   cases hv with
   | @lst _ _ _ _ ad cap b o cv ha hes hcap ht hc1 hc3 hc2=>
     rcases h1 with rfl |rfl
     ·exact .lst b o cv ha hes hcap (λhh=>ht (h2 hh)) hc1 hc3 hc2
     ·exact .lst (xs:= []) b o cv (by simp) (by simp) hcap (λhh=>ht (h2 hh)) (by simp) (by simp) (by simp)
  ·split at h
   ·rename_i k off len _ es' xs' ho
    obtain⟨rfl,rfl,hle,rfl,hk⟩:=h
    exact(aIO hR (λb h=>jY hobs h) hv ho hle λb es cap hs hown=>by
     rcases hown with hu |hown
     ·exact hR.disj b ⟨k,_,_,_,ho,hs⟩ hu
     ·obtain⟨j,k',p,es',cap',h1,h2,h3⟩:=kZ hobs hown
      obtain rfl:=hR.inj k k' _ _ b es cap es' cap' ho h2 hs h3
      exact sA hk (zG h1)).lift _
   ·cases h
  ·split at h
   ·rename_i k off len c _ es' xs' ho
    obtain⟨rfl,ht,hle,rfl,hk⟩:=h
    exact(aIP hR (λb h=>jY hobs h) hv ho hle (λb es cap hs hown=>by
     rcases hown with hu |hown
     ·exact hR.disj b ⟨k,_,_,_,ho,hs⟩ hu
     ·obtain⟨j,k',p,es',cap',h1,h2,h3⟩:=kZ hobs hown
      obtain rfl:=hR.inj k k' _ _ b es cap es' cap' ho h2 hs h3
      exact sA hk (zG h1)) _ ht).lift _
   ·cases h
  ·cases h
 ·split at h
  ·obtain⟨rfl,rfl⟩:=h;cases hv;exact .int _ _
  ·cases h
 ·split at h
  ·obtain rfl:=h;cases hv;exact .bool _
  ·cases h
 ·subst h;exact sub (aX hv rfl) _
 ·subst h;exact sub (aX hv rfl) _
 ·subst h;cases hv;exact .val _
 ·subst h;exact sub (aX hv rfl) _
 ·cases h
theorem aO6(hR:aW U σ S w n)(hobs:nY S ids ids obs) {x y:V} {v:Value} (h:vw2 S ids x y)(hv:VR (Own U σ S) w σ x v):VR (Own U (rD σ ids obs) (aN 0 obs)) w (rD σ ids obs) y v:=by
 unfold vw2 at h
 split at h
 ·split at h
  ·obtain⟨h1,h2⟩:=rL h
   cases hv with
   |agg hn hc=>
    refine .agg (by rw [hn,h1]) λi y u hy hu=>?_
    obtain⟨x,hx,hxy⟩:=h2 i y hy
    exact aIZ hR hobs hxy (hc i x u hx hu)
  ·cases h
 ·split at h
  ·obtain⟨rfl,h⟩:=h
   obtain⟨h1,h2⟩:=rL h
   cases hv with
   |fn hn hc=>
    refine .fn (by rw [hn,h1]) λi y u hy hu=>?_
    obtain⟨x,hx,hxy⟩:=h2 i y hy
    exact aIZ hR hobs hxy (hc i x u hx hu)
  ·cases h
 ·exact aIZ hR hobs h hv
theorem aO7(hR:aW U σ S w n)(hobs:nY S ids ids obs) {x y:V} {v:Value} (h:vw3 S ids x y)(hv:VR (Own U σ S) w σ x v):VR (Own U (rD σ ids obs) (aN 0 obs)) w (rD σ ids obs) y v:=by
 unfold vw3 at h
 split at h
 ·split at h
  ·obtain⟨h1,h2⟩:=rL h
   cases hv with
   |tup hn hc=>
    refine .tup (by rw [hn,h1]) λi y u hy hu=>?_
    obtain⟨x,hx,hxy⟩:=h2 i y hy
    exact aO6 hR hobs hxy (hc i x u hx hu)
  ·cases h
 ·exact aO6 hR hobs h hv
theorem aW.view(hR:aW U σ S w n)(hobs:nY S ids ids obs)(hnd:aB0 ids):aW U (rD σ ids obs) (aN 0 obs) w obs.length where
 obj:=λj o hj=>by
  rw [cY,if_pos (zQ _),zM] at hj
  rcases(iB hobs).2 j o hj with ⟨k,p,h1,h2,h3⟩| ⟨h1,es',rfl⟩
  ·have hob:=hR.obj k p h2
   have hs:rD σ ids obs j=σ k:=by simp [rD,h1]
   rw [hs]
   unfold aWJ at h3
   split at h3
   ·obtain⟨rfl,rfl⟩:=h3
    obtain⟨hl,h⟩:=hob
    refine⟨hl,?_⟩
    rcases hσ:σ k with _ | ⟨_ |b,es',cap⟩
    ·rw [hσ] at h;exact h
    ·rw [hσ] at h;exact h
    ·rw [hσ] at h
     obtain⟨e1,e2,arr,ty,e3,e4,e5⟩:=h
     refine⟨e1,e2,arr,ty,e3,e4,λi x c y hx hy=>?_⟩
     obtain⟨u,q1,q2,q3⟩:=e5 i x c y hx hy
     exact⟨u,q1,q2,q3.mono (cU.refl _ _) (λb _ h=>jY hobs h) λ_ _=>rfl⟩
   ·obtain⟨hl,hg⟩:=rL h3
    obtain⟨b,e1,arr,ty,e3,e4,e5⟩:=hob
    refine⟨b,by rw [e1,hl],arr,ty,e3,by rw [e4,hl],λc y hy=>?_⟩
    obtain⟨x,hx,hxy⟩:=hg c y hy
    obtain⟨u,q1,q2,q3⟩:=e5 c x hx
    exact⟨u,q1,q2,aIZ hR hobs hxy q3⟩
   ·subst h3
    obtain⟨b,e1,es,ck,e3,e4,e5⟩:=hob
    refine⟨b,e1,es,ck,e3,e4,λi p hp=>?_⟩
    obtain⟨en,q1,q2,q3⟩:=e5 i p hp
    exact⟨en,q1,q2,q3.mono (cU.refl _ _) (λb _ h=>jY hobs h) λ_ _=>rfl⟩
   ·subst h3
    exact hob
   ·rename_i xs es rows
    obtain⟨rfl,rfl,hf⟩:=h3
    obtain⟨b,e1,arr,ty,e3,e4,e5⟩:=hob
    refine⟨λx hx=>by rw [List.mem_singleton.1 hx],?_⟩
    rw [e1]
    refine⟨rfl,⟨by simp,by omega⟩,arr,(ty,false),e3,by rw [Nat.one_mul,e4];exact zJ _,λi x c y hx hy=>?_⟩
    cases i with
    |succ i=>simp at hx
    |zero=>
     simp only [zE,Option.some.injEq] at hx
     subst hx
     obtain⟨u,q1,q2,q3⟩:=e5 c y hy
     exact⟨u,by rw [Nat.zero_mul,Nat.zero_add];exact q1,q2,(aX q3 (List.all_eq_true.1 hf y (zG hy))).mono (cU.refl _ _) (λb _ h=>jY hobs h) λ_ _=>rfl⟩
   ·cases h3
  ·exact⟨by simp,by simp [rD,h1,hj]⟩
 inj:=λj j' o o' b es cap es' cap' hj hj' hs hs'=>by
  rw [cY,if_pos (zQ _),zM] at hj hj'
  rcases(iB hobs).2 j o hj with ⟨k,p,h1,h2,h3⟩| ⟨h1,es1,rfl⟩
  ·rcases(iB hobs).2 j' o' hj' with ⟨k',p',h1',h2',h3'⟩| ⟨h1',es1,rfl⟩
   ·simp only [rD,h1] at hs
    simp only [rD,h1'] at hs'
    obtain rfl:=hR.inj k k' p p' b es cap es' cap' h2 h2' hs hs'
    exact aEH hnd j j' k h1 h1'
   ·simp [rD,h1',hj'] at hs'
  ·simp [rD,h1,hj] at hs
 fresh:=λj hj=>by
  have hlen:=(iB hobs).1
  refine⟨by rw [cY,if_pos (zQ _),zM,zO (by omega)],?_⟩
  simp [rD,zO (show ids.length<=j by omega)]
 disj:=λb hb hu=>by
  obtain⟨j,k,p,es,cap,-,h2,h3⟩:=kZ hobs hb
  exact hR.disj b ⟨k,p,es,cap,h2,h3⟩ hu
 ulim:=hR.ulim
 gl:=hR.gl.less λb h=>jY hobs h
end
end Go.Sk
namespace Go.Sk
open Go Go.RowKit
variable [gH]
def lY:V->(V->Prop)->Prop
 | .any,K=>K .any
 | .int k n,K=>K (.int k n)
 | .bool b,K=>K (.bool b)
 | .str s,K=>K (.str s)
 | .agg cs,K=>K (.agg cs)
 | .tup cs,K=>K (.tup cs)
 | .nil,K=>K .nil
 | .ptr k i c,K=>K (.ptr k i c)
 | .rp es cs c,K=>K (.rp es cs c)
 | .sl k off len,K=>K (.sl k off len)
 | .slx k off len,K=>K (.slx k off len)
 | .slk k off len c,K=>K (.slk k off len c)
 | .lst es t xs,K=>K (.lst es t xs)
 | .fn f cs,K=>K (.fn f cs)
 | .mp k,K=>K (.mp k)
 | .val v,K=>K (.val v)
theorem gZ(v:V)(K:V->Prop):lY v K=K v:=by cases v <;> rfl
def iL:List V->(List V->Prop)->Prop
 | [],K=>K []
 |v::r,K=>lY v λv=>iL r λr=>K (v::r)
theorem fE:∀(l:List V) (K:List V->Prop),iL l K=K l
 | [],_=>rfl
 |v::r,K=>by simp only [iL,gZ,fE r]
def dG:aD->(aD->Prop)->Prop
 | [],K=>K []
 | (j,.row es xs)::r,K=>dG r λr'=>K ((j,.row es xs)::r')
 | (j,.box cs)::r,K=>iL cs λcs=>dG r λr'=>K ((j,.box cs)::r')
 | (j,.mp xs)::r,K=>dG r λr'=>K ((j,.mp xs)::r')
 | (j,.bb l)::r,K=>dG r λr'=>K ((j,.bb l)::r')
theorem eM:∀(S:aD) (K:aD->Prop),dG S K=K S
 | [],_=>rfl
 | (j,.row es xs)::r,K=>by simp only [dG,eM r]
 | (j,.box cs)::r,K=>by simp only [dG,fE,eM r]
 | (j,.mp xs)::r,K=>by simp only [dG,eM r]
 | (j,.bb l)::r,K=>by simp only [dG,eM r]
def aJU:bD->Nat->(bD->Prop)->Prop
 | [],_,K=>K []
 | (j,q)::r,d,K=>match Nat.beq d j with
   |true=>aJU r d K
   |false=>aJU r d λr'=>K ((j,q)::r')
theorem aDQ:∀(l:bD) (d:Nat) (K:bD->Prop),aJU l d K=K (aFE l d)
 | [],_,_=>rfl
 | (j,q)::r,d,K=>by
   simp only [aJU,aFE]
   cases h:Nat.beq d j with
   |true=>rw [if_pos (zI h)];exact aDQ r d K
   |false=>rw [if_neg (zH h)];exact aDQ r d _
def aQ7:bD->Nat->SV->(bD->Prop)->Prop
 | [],d,s,K=>K [(d,s)]
 | (j,q)::r,d,s,K=>match Nat.beq d j with
   |true=>aJU r d λr'=>K ((d,s)::r')
   |false=>aQ7 r d s λr'=>K ((j,q)::r')
theorem aLJ:∀(l:bD) (d:Nat) (s:SV) (K:bD->Prop),aQ7 l d s K=K (aF6 l d s)
 | [],_,_,_=>rfl
 | (j,q)::r,d,s,K=>by
   simp only [aQ7,aF6]
   cases h:Nat.beq d j with
   |true=>rw [if_pos (zI h)];exact aDQ r d _
   |false=>rw [if_neg (zH h)];exact aLJ r d s _
def aEV(l:bD)(d:Option Nat)(s:SV)(K:bD->Prop):Prop:=
 match d with
 |some d=>aQ7 l d s K
 |none=>K l
theorem sL(l:bD)(d:Option Nat)(s:SV)(K:bD->Prop):aEV l d s K=K (aB8 l d s):=by
 cases d with
 |none=>rfl
 |some d=>exact aLJ l d s K
def cP:Nat->Nat->Nat->(Nat->Prop)->Prop
 |0,_,n,K=>K n
 |f+1,i,n,K=>match Nat.beq n i with
  |true=>K i
  |false=>cP f (i+1) n K
theorem eF:∀(f i n:Nat) (K:Nat->Prop),cP f i n K=K n
 |0,_,_,_=>rfl
 |f+1,i,n,K=>by
  simp only [cP]
  cases h:Nat.beq n i with
  |true=>rw [zI h]
  |false=>exact eF f (i+1) n K
def cS:List Nat->(List Nat->Prop)->Prop
 | [],K=>K []
 |k::r,K=>cS r λr'=>K (k::r')
theorem fD:∀(l:List Nat) (K:List Nat->Prop),cS l K=K l
 | [],_=>rfl
 |k::r,K=>by simp only [cS,fD r]
def qF:bD->(bD->Prop)->Prop
 | [],K=>K []
 | (d,⟨ch,gc,v⟩)::r,K=>lY v λv=>qF r λr'=>K ((d,⟨ch,gc,v⟩)::r')
theorem lX:∀(l:bD) (K:bD->Prop),qF l K=K l
 | [],_=>rfl
 | (d,⟨ch,gc,v⟩)::r,K=>by simp only [qF,gZ,lX r]
def rZ(sl:bD)(g:Option (Nat×Bool))(K:List (Nat×Bool)->Bool->Prop):Prop:=
 match g with
 |none=>K [] true
 |some (gd,b)=>match fL sl gd with
  |some ⟨ch,gc,v⟩=>(match v with
   | .bool x=>(match ch,b with
     | [],true=>K [(gd,true)] x
     | [],false=>K [(gd,false)] (!x)
     |c::r,true=>K ((gd,true)::c::r) (gc&&x)
     |c::r,false=>K ((gd,false)::c::r) (gc&& !x))
   | .any=>(match ch,gc with
     |c::r,false=>K ((gd,b)::c::r) false
     |_,_=>False)
   |_=>False)
  |none=>False
theorem oV(sl:bD)(g:Option (Nat×Bool))(K:List (Nat×Bool)->Bool->Prop):rZ sl g K=match guardOf sl g with
 |none=>False
 |some (ch,gc)=>K ch gc:=by
 cases g with
 |none=>rfl
 |some p=>
  obtain⟨gd,b⟩:=p
  simp only [rZ,guardOf]
  cases h:fL sl gd with
  |none=>rfl
  |some s=>
   obtain⟨ch,gc,v⟩:=s
   cases v <;> first |rfl | (cases ch <;> cases b <;> rfl)| (cases ch <;> cases gc <;> rfl)
end Go.Sk
namespace Go.Sk
open Go Go.RowKit
variable [gH]
theorem aT0 {op:BinOp} {k:IntKind} {a b:Int} {gc:Bool} {K:V->Prop} (h:aCL op k a b gc K):∃v,K v/\aCL op k a b gc λv'=>v'=v:=by
 cases op <;> simp only [aCL] at h⊢<;> first |exact⟨_,h,rfl⟩|exact⟨_,h.2,h.1,rfl⟩
theorem aID {S:aD} {i:I} {e:A->V} {gc:Bool} {K:V->Prop} (h:fU S i e gc K):∃v,K v/\fU S i e gc λv'=>v'=v:=by
 revert h
 unfold fU
 repeat' split
 all_goals intro h
 all_goals first
  |exact h.elim
  | (obtain⟨v,h1,h2⟩:=aT0 h.2;exact⟨v,h1,h.1,h2⟩)
  | (obtain⟨r,h1,h2⟩:=rW h;exact⟨_,h1,oU (λr' e=>by subst e;rfl) h2⟩)
  |exact⟨_,h,rfl⟩
  |exact⟨_,h.2,h.1,rfl⟩
  |exact⟨_,h.2.2,h.1,h.2.1,rfl⟩
theorem aQI {S:aD} {n:Nat} {i:I} {e:A->V} {K:V->aD->Nat->Prop} (h:nZ S n i e K):∃v S' n',K v S' n'/\nZ S n i e λa b c=>a=v/\b=S'/\c=n':=by
 revert h
 unfold nZ
 repeat' split
 all_goals intro h
 all_goals first
  |exact h.elim
  |exact⟨_,_,_,h,rfl,rfl,rfl⟩
  |exact⟨_,_,_,h.2,h.1,rfl,rfl,rfl⟩
  |exact⟨_,_,_,h.2.2,h.1,h.2.1,rfl,rfl,rfl⟩
  |exact⟨_,_,_,h.2.2.2,h.1,h.2.1,h.2.2.1,rfl,rfl,rfl⟩
  |exact⟨_,_,_,h.2.2.2.2,h.1,h.2.1,h.2.2.1,h.2.2.2.1,rfl,rfl,rfl⟩
  |exact⟨_,_,_,h.2.2.2.2.2,h.1,h.2.1,h.2.2.1,h.2.2.2.1,h.2.2.2.2.1,rfl,rfl,rfl⟩
  |exact⟨_,_,_,h.2.2.2.2.2.2,h.1,h.2.1,h.2.2.1,h.2.2.2.1,h.2.2.2.2.1,h.2.2.2.2.2.1,rfl,rfl,rfl⟩
  | (obtain⟨h1,h2,h3⟩:=h
     revert h3
     repeat' split
     all_goals intro h
     all_goals first
      |exact h.elim
      |exact⟨_,_,_,h.2.2,h1,h2,h.1,h.2.1,rfl,rfl,rfl⟩
      |exact⟨_,_,_,h.2.2.2.2.2,h1,h2,h.1,h.2.1,h.2.2.1,h.2.2.2.1,h.2.2.2.2.1,rfl,rfl,rfl⟩)
theorem aKG {P:Program} {st:St} {ch:List (Nat×Bool)} {gc:Bool} {i:I} {K:V->aD->Nat->Prop} (h:mU P st ch gc i K):
 ∃v S n,K v S n/\mU P st ch gc i λa b c=>a=v/\b=S/\c=n:=by
 have rd:∀i,mU P st ch gc i K->(∀K,mU P st ch gc i K=fU st.so i (bZ st.sl ch) gc λv=>K v st.so st.nx)->∃v S n,K v S n/\mU P st ch gc i λa b c=>a=v/\b=S/\c=n:=by
  intro i h he
  rw [he] at h
  obtain⟨v,h1,h2⟩:=aID h
  exact⟨v,_,_,h1,by rw [he];simpa using h2⟩
 have wr:∀i,mU P st ch gc i K->(∀K,mU P st ch gc i K=lG st.sl st.so st.nx ch gc i K)->∃v S n,K v S n/\mU P st ch gc i λa b c=>a=v/\b=S/\c=n:=by
  intro i h he
  rw [he] at h
  unfold lG at h
  cases ch with
  |nil=>
   obtain⟨v,S,n,h1,h2⟩:=aQI h
   exact⟨v,S,n,h1,by rw [he];exact h2⟩
  |cons g r=>
   cases gc with
   |true=>
    obtain⟨v,S,n,h1,h2⟩:=aQI (h.1 rfl)
    exact⟨v,S,n,h1,by rw [he];exact⟨λ_=>h2,(by intro h;cases h)⟩⟩
   |false=>exact⟨_,_,_,h.2 rfl,by rw [he];exact⟨(by intro h;cases h),λ_=>⟨rfl,rfl,rfl⟩⟩⟩
 cases i with
 |pick c a b=>
  cases c with
  |c v=>exact rd _ h λ_=>rfl
  |t tc=>
   simp only [mU,dK] at h⊢
   split at h
   ·split at h
    ·exact⟨_,_,_,h,rfl,rfl,rfl⟩
    ·split at h
     ·exact⟨_,_,_,h,rfl,rfl,rfl⟩
     ·exact⟨_,_,_,h,rfl,rfl,rfl⟩
   ·exact⟨_,_,_,h.2,h.1,rfl,rfl,rfl⟩
 |build z ps=>
  simp only [mU,dK] at h⊢
  split at h
  ·rename_i cs hcs
   exact⟨_,_,_,h.2,h.1,rfl,rfl,rfl⟩
  ·exact h.elim
 |call f xs=>
  simp only [mU,dK] at h⊢
  rcases h with ⟨res,h1,h2,h3⟩| ⟨ha,hb⟩| ⟨ha,hb⟩| ⟨ha,hb⟩
  ·exact⟨_,_,_,h3,.inl ⟨res,h1,h2,rfl,rfl,rfl⟩⟩
  ·cases gc with
   |false=>exact⟨_,_,_,hb rfl,.inr ⟨(λh=>by cases h),λ_=>⟨rfl,rfl,rfl⟩⟩⟩
   |true=>
    obtain⟨L,ob0,ob1,res,h1,h2,h3,h5,h6,h7⟩:=ha rfl
    exact⟨_,_,_,h7,.inr ⟨λ_=>⟨L,ob0,ob1,res,h1,h2,h3,h5,h6,rfl,rfl,rfl⟩,(λh=>by cases h)⟩⟩
  ·cases gc with
   |false=>exact⟨_,_,_,hb rfl,.frz ⟨(λh=>by cases h),λ_=>⟨rfl,rfl,rfl⟩⟩⟩
   |true=>
    obtain⟨Fz,res,h1,h2,h3⟩:=ha rfl
    exact⟨_,_,_,h3,.frz ⟨λ_=>⟨Fz,res,h1,h2,rfl,rfl,rfl⟩,(λh=>by cases h)⟩⟩
  ·cases gc with
   |false=>exact⟨_,_,_,hb rfl,.mov ⟨(λh=>by cases h),λ_=>⟨rfl,rfl,rfl⟩⟩⟩
   |true=>
    obtain⟨L,ob0,ob1,res,h1,h2,h3,h4,h5⟩:=ha rfl
    exact⟨_,_,_,h5,.mov ⟨λ_=>⟨L,ob0,ob1,res,h1,h2,h3,h4,rfl,rfl,rfl⟩,(λh=>by cases h)⟩⟩
 |vcall x xs=>
  simp only [mU,dK] at h⊢
  split at h
  ·rename_i f caps hx
   obtain⟨hc,h⟩:=h
   rcases h with ⟨res,h1,h2,h3⟩| ⟨ha,hb⟩| ⟨ha,hb⟩| ⟨ha,hb⟩
   ·exact⟨_,_,_,h3,hc,.inl ⟨res,h1,h2,rfl,rfl,rfl⟩⟩
   ·cases gc with
    |false=>exact⟨_,_,_,hb rfl,hc,.inr ⟨(λh=>by cases h),λ_=>⟨rfl,rfl,rfl⟩⟩⟩
    |true=>
     obtain⟨L,ob0,ob1,res,h1,h2,h3,h5,h6,h7⟩:=ha rfl
     exact⟨_,_,_,h7,hc,.inr ⟨λ_=>⟨L,ob0,ob1,res,h1,h2,h3,h5,h6,rfl,rfl,rfl⟩,(λh=>by cases h)⟩⟩
   ·cases gc with
    |false=>exact⟨_,_,_,hb rfl,hc,.frz ⟨(λh=>by cases h),λ_=>⟨rfl,rfl,rfl⟩⟩⟩
    |true=>
     obtain⟨Fz,res,h1,h2,h3⟩:=ha rfl
     exact⟨_,_,_,h3,hc,.frz ⟨λ_=>⟨Fz,res,h1,h2,rfl,rfl,rfl⟩,(λh=>by cases h)⟩⟩
   ·cases gc with
    |false=>exact⟨_,_,_,hb rfl,hc,.mov ⟨(λh=>by cases h),λ_=>⟨rfl,rfl,rfl⟩⟩⟩
    |true=>
     obtain⟨L,ob0,ob1,res,h1,h2,h3,h4,h5⟩:=ha rfl
     exact⟨_,_,_,h5,hc,.mov ⟨λ_=>⟨L,ob0,ob1,res,h1,h2,h3,h4,rfl,rfl,rfl⟩,(λh=>by cases h)⟩⟩
  ·exact⟨_,_,_,h.2,h.1,rfl,rfl,rfl⟩
 |clr a b c=>exact wr _ h λ_=>rfl
 |alloc z=>exact wr _ h λ_=>rfl
 |box z=>exact wr _ h λ_=>rfl
 |st a b c=>exact wr _ h λ_=>rfl
 |mkmap a=>exact wr _ h λ_=>rfl
 |mput a b c=>exact wr _ h λ_=>rfl
 |mputp a b c=>exact wr _ h λ_=>rfl
 |bslice a b c d=>exact wr _ h λ_=>rfl
 |mk a b c d e=>exact wr _ h λ_=>rfl
 |app a b c d=>exact wr _ h λ_=>rfl
 |cpy a b c=>exact wr _ h λ_=>rfl
 |s2b a=>exact wr _ h λ_=>rfl
 |aslc a b c=>exact wr _ h λ_=>rfl
 |cpys a b=>exact wr _ h λ_=>rfl
 |_=>exact rd _ h λ_=>rfl
def look(sl:bD):List Nat->bD
 | []=> []
 |d::r=>match fL sl d with
  |some s=>(d,s)::look sl r
  |none=>look sl r
theorem mG {sl:bD} :∀ {l:List Nat} {d:Nat} {s:SV},(d,s)∈look sl l->d∈l/\fL sl d=some s
 | [],_,_,h=>by simp [look] at h
 |a::r,d,s,h=>by
  simp only [look] at h
  split at h
  ·rename_i q hq
   rcases List.mem_cons.1 h with h |h
   ·obtain⟨rfl,rfl⟩:=Prod.mk.inj h;exact⟨by simp,hq⟩
   ·exact⟨zD _ (mG h).1,(mG h).2⟩
  ·exact⟨zD _ (mG h).1,(mG h).2⟩
def iC(S:aD):List Nat->aD
 | []=> []
 |k::r=>match S.get k with
  |some o=>(k,o)::iC S r
  |none=>iC S r
theorem iV {S:aD} :∀ {l:List Nat} {k:Nat},(iC S l).get k=if k∈l then S.get k else none
 | [],k=>by simp [iC,aD.get]
 |a::r,k=>by
  simp only [iC]
  split
  ·rename_i o ho
   simp only [aD.get]
   by_cases h:k=a
   ·subst h;simp [ho]
   ·rw [if_neg h,iV];simp [h]
  ·rename_i ho
   rw [iV]
   by_cases h:k=a
   ·subst h;simp [ho]
   ·simp [h]
theorem aBU {S S':aD} :∀ {l:List Nat},(∀k∈l,S'.get k=S.get k)->iC S' l=iC S l
 | [],_=>rfl
 |a::r,h=>by
  simp only [iC]
  rw [h a (by simp),aBU λd hd=>h d (zD _ hd)]
def vW(S S1:aD):List Nat->aD
 | []=>S
 |k::r=>match S1.get k with
  |some o=>(vW S S1 r).set k o
  |none=>(vW S S1 r).del k
theorem pK {S S1:aD} :∀ {l:List Nat} {k:Nat},(vW S S1 l).get k=if k∈l then S1.get k else S.get k
 | [],k=>by simp [vW]
 |a::r,k=>by
  simp only [vW]
  split
  ·rename_i o ho
   rw [aD.get_set,pK]
   by_cases h:k=a
   ·subst h;simp [ho]
   ·simp [h]
  ·rename_i ho
   rw [aD.get_del,pK]
   by_cases h:k=a
   ·subst h;simp [ho]
   ·simp [h]
theorem aW.congr {U:Nat->Prop} {σ:Sg} {S S':aD} {w:World} {n:Nat} (h:∀k,S'.get k=S.get k)(hR:aW U σ S w n):aW U σ S' w n:=by
 have hO:∀b,Own U σ S' b↔Own U σ S b:=λb=>by unfold Own gW;simp only [h]
 have hO':∀b,gW σ S' b↔gW σ S b:=λb=>by unfold gW;simp only [h]
 have hO2:Own U σ S'=Own U σ S:=funext λb=>propext (hO b)
 exact⟨λk o hk=>by rw [hO2];exact hR.obj k o (by rw [<-h];exact hk),λk k' o o' b es cap es' cap' h1 h2=>hR.inj k k' o o' b es cap es' cap' (by rw [<-h];exact h1) (by rw [<-h];exact h2),
  λk hk=>by rw [h];exact hR.fresh k hk,λb hb=>hR.disj b ((hO' b).1 hb),hR.ulim,by rw [hO2];exact hR.gl⟩
theorem aW.wider {U:Nat->Prop} {σ:Sg} {S:aD} {w:World} {n n':Nat} (h:n<=n')(hR:aW U σ S w n):aW U σ S w n':=
 ⟨hR.obj,hR.inj,λk hk=>hR.fresh k (by omega),hR.disj,hR.ulim,hR.gl⟩
def Uf(U:Nat->Prop)(σ:Sg)(S:aD)(T:List Nat)(b:Nat):Prop:=U b\/∃k o es cap,k∉T/\S.get k=some o/\σ k=some (some b,es,cap)
section
variable {U:Nat->Prop} {σ:Sg} {S:aD} {w:World} {n:Nat} {T:List Nat}
theorem aMA {b:Nat} (h:Own (Uf U σ S T) σ (iC S T) b):Own U σ S b:=by
 rcases h with (hu | ⟨k,o,es,cap,-,h2,h3⟩)| ⟨k,o,es,cap,h2,h3⟩
 ·exact .inl hu
 ·exact .inr ⟨k,o,es,cap,h2,h3⟩
 ·rw [iV] at h2
  split at h2
  ·exact .inr ⟨k,o,es,cap,h2,h3⟩
  ·cases h2
theorem kO.less {O O':Nat->Prop} (hO:∀b,O' b->O b) {loc:Option (Option Nat×Nat×Nat)} {o:Obj} (h:kO O w σ loc o):kO O' w σ loc o:=by
 have g0:∀ {σ x v},VR O w σ x v->VR O' w σ x v:=λh=>h.mono (cU.refl _ _) (λb _ hb=>hO b hb) λ_ _=>rfl
 cases o with
 |row es xs=>
  obtain⟨hl,h⟩:=h
  refine⟨hl,?_⟩
  rcases loc with _ | ⟨_ |b,es',cap⟩
  ·exact h
  ·exact h
  ·obtain⟨rfl,e1,arr,ty,e2,e3,e4⟩:=h
   refine⟨rfl,e1,arr,ty,e2,e3,λi x c y hx hy=>?_⟩
   obtain⟨v,q1,q2,q3⟩:=e4 i x c y hx hy
   exact⟨v,q1,q2,g0 q3⟩
 |box cs=>
  obtain⟨b,rfl,arr,ty,e2,e3,e4⟩:=h
  refine⟨b,rfl,arr,ty,e2,e3,λc y hy=>?_⟩
  obtain⟨v,q1,q2,q3⟩:=e4 c y hy
  exact⟨v,q1,q2,g0 q3⟩
 |mp xs=>
  obtain⟨b,rfl,es,ck,e2,e3,e4⟩:=h
  refine⟨b,rfl,es,ck,e2,e3,λi p hp=>?_⟩
  obtain⟨en,q1,q2,q3⟩:=e4 i p hp
  exact⟨en,q1,q2,g0 q3⟩
 |bb l=>exact h
theorem aW.part(hR:aW U σ S w n)(T:List Nat):aW (Uf U σ S T) σ (iC S T) w n:=by
 have hg:∀k o,(iC S T).get k=some o->k∈T/\S.get k=some o:=λk o h=>by
  rw [iV] at h
  split at h
  ·rename_i hk;exact⟨hk,h⟩
  ·cases h
 refine⟨λk o hk=>(hR.obj k o (hg k o hk).2).less λb=>aMA,λk k' o o' b es cap es' cap' h1 h2=>hR.inj k k' o o' b es cap es' cap' (hg k o h1).2 (hg k' o' h2).2,λk hk=>⟨?_,(hR.fresh k hk).2⟩,λb hb hu=>?_,λb hu=>?_,hR.gl.less λb=>aMA⟩
 ·rw [iV,(hR.fresh k hk).1];simp
 ·obtain⟨k,o,es,cap,h1,h2⟩:=hb
  rcases hu with hu | ⟨k',o',es',cap',h3,h4,h5⟩
  ·exact hR.disj b ⟨k,o,es,cap,(hg k o h1).2,h2⟩ hu
  ·obtain rfl:=hR.inj k k' o o' b es cap es' cap' (hg k o h1).2 h4 h2 h5
   exact h3 (hg k o h1).1
 ·rcases hu with hu | ⟨k',o',es',cap',h3,h4,h5⟩
  ·exact hR.ulim b hu
  ·exact hR.size ⟨k',o',es',cap',h4,h5⟩
theorem aW.whole(hR:aW U σ S w n) {σ':Sg} {S1 S2:aD} {w':World} {R:Nat->Prop} (hT:∀k∈T,R k)(hnew:∀k,R k->k∉T->S.get k=Option.none)(hin:∀k,R k->S2.get k=S1.get k)
 (hout:∀k,¬R k->S2.get k=S.get k/\σ' k=σ k/\S1.get k=Option.none) (g:bV σ (iC S T) w n σ' S1 w' n) (hR':aW (Uf U σ S T) σ' S1 w' n):
 bV σ S w n σ' S2 w' n/\aW U σ' S2 w' n/\∀b,Own U σ' S2 b->Own (Uf U σ S T) σ' S1 b:=by
 have own0:∀b,gW σ (iC S T) b->∃k o es cap,k∈T/\S.get k=some o/\σ k=some (some b,es,cap):=by
  rintro b ⟨k,o,es,cap,h1,h2⟩
  rw [iV] at h1
  split at h1
  ·rename_i hk;exact⟨k,o,es,cap,hk,h1,h2⟩
  ·cases h1
 have cases2:∀k o,S2.get k=some o->(S.get k=some o/\k∉T/\σ' k=σ k)\/S1.get k=some o:=by
  intro k o hk
  by_cases h:R k
  ·rw [hin k h] at hk;exact .inr hk
  ·obtain⟨h1,h2,-⟩:=hout k h
   rw [h1] at hk
   exact .inl ⟨hk,λhm=>h (hT k hm),h2⟩
 have g2:bV σ S w n σ' S2 w' n:=by
  refine⟨g.keep.wider λb hb=>by obtain⟨k,o,es,cap,-,h2,h3⟩:=own0 b hb;exact⟨k,o,es,cap,h2,h3⟩,λb hb hO=>?_,g.sg,zJ _⟩
  obtain⟨k,o,es,cap,hk,hs⟩:=hO
  rcases cases2 k o hk with ⟨h1,-,h2⟩|h1
  ·exact⟨k,o,es,cap,h1,h2▸hs⟩
  ·obtain⟨k,o,es,cap,-,h2,h3⟩:=own0 b (g.own b hb ⟨k,o,es,cap,h1,hs⟩);exact⟨k,o,es,cap,h2,h3⟩
 have own2:∀b,Own U σ' S2 b->Own (Uf U σ S T) σ' S1 b:=by
  rintro b (hu | ⟨k,o,es,cap,hk,hs⟩)
  ·exact .inl (.inl hu)
  ·rcases cases2 k o hk with ⟨h1,h3,h2⟩|h1
   ·exact .inl (.inr ⟨k,o,es,cap,h3,h1,h2▸hs⟩)
   ·exact .inr ⟨k,o,es,cap,h1,hs⟩
 have apart:∀b k o es cap,k∉T->S.get k=some o->σ k=some (some b,es,cap)->¬gW σ' S1 b:=by
  intro b k o es cap hk h1 h2 hO
  have hb:=hR.size ⟨k,o,es,cap,h1,h2⟩
  obtain⟨k',o',es',cap',hk',h1',h2'⟩:=own0 b (g.own b hb hO)
  obtain rfl:=hR.inj k k' o o' b es cap es' cap' h1 h1' h2 h2'
  exact hk hk'
 refine⟨g2,hR.step g2 (λk hk=>?_) (λk k' o o' b es cap es' cap' hk hk' hs hs'=>?_) (λk o hk=>?_),own2⟩
 ·refine⟨?_,(hR'.fresh k hk).2⟩
  by_cases h:R k
  ·rw [hin k h];exact(hR'.fresh k hk).1
  ·rw [(hout k h).1];exact(hR.fresh k hk).1
 ·rcases cases2 k o hk with ⟨h1,h3,h2⟩|h1 <;> rcases cases2 k' o' hk' with ⟨h1',h3',h2'⟩|h1'
  ·exact hR.inj k k' o o' b es cap es' cap' h1 h1' (h2▸hs) (h2'▸hs')
  ·exact absurd ⟨k',o',es',cap',h1',hs'⟩ (apart b k o es cap h3 h1 (h2▸hs))
  ·exact absurd ⟨k,o,es,cap,h1,hs⟩ (apart b k' o' es' cap' h3' h1' (h2'▸hs'))
  ·exact hR'.inj k k' o o' b es cap es' cap' h1 h1' hs hs'
 ·rcases cases2 k o hk with ⟨h1,h3,h2⟩|h1
  ·left
   refine⟨h1,λb es cap hs=>g.keep.block b (hR.size ⟨k,o,es,cap,h1,hs⟩) λhO=>?_⟩
   obtain⟨k',o',es',cap',hk',h1',h2'⟩:=own0 b hO
   obtain rfl:=hR.inj k k' o o' b es cap es' cap' h1 h1' hs h2'
   exact h3 hk'
  ·right
   exact(hR'.obj k o h1).less own2
end
end Go.Sk
namespace Go.Sk
open Go Go.RowKit
variable [gH]
structure Rec where
 m:Nat
 rd:List Nat
 cs:List Nat
 d:Option Nat
 s:SV
 T:List Nat
 ids:List Nat
 S1:aD
def aYE:V->List Nat
 | .ptr k _ _=> [k]
 | .sl k _ _=> [k]
 | .slx k _ _=> [k]
 | .slk k _ _ _=> [k]
 | .mp k=> [k]
 |_=> []
def aOU:List V->List Nat
 | []=> []
 |v::r=>aYE v++aOU r
def oX:V->List Nat
 | .agg cs=>aOU cs
 | .fn _ cs=>aOU cs
 |v=>aYE v
def aG5:bD->List Nat
 | []=> []
 | (_,s)::r=>oX s.v++aG5 r
def bLW(i:I)(SL:bD):List Nat:=
 match i with
 | .mv _=> []
 | .faddr _ _=> []
 | .extr _ _=> []
 |_=>aG5 SL
def aYF(S:aD):List Nat->List Nat
 | []=> []
 |k::r=>match S.get k with
  |some (.box cs)=>aOU cs++aYF S r
  |_=>aYF S r
def sB(i:I)(SL:bD)(S:aD):List Nat:=
 match i with
 | .call _ _=>aG5 SL++aYF S (aG5 SL)
 | .vcall _ _=>aG5 SL++aYF S (aG5 SL)
 |i=>bLW i SL
def aT:A->List Nat
 | .t n=> [n]
 | .c _=> []
def aTs:List A->List Nat
 | []=> []
 |a::r=>aT a++aTs r
def aLQ:I->List Nat
 | .mv x=>aT x | .pick c a b=>aT c++aT a++aT b | .un _ x=>aT x | .bin _ x y=>aT x++aT y | .conv _ x=>aT x | .nilck x=>aT x | .faddr _ x=>aT x
 | .fget _ _ _ x=>aT x | .ld _ _ x=>aT x | .st _ x y=>aT x++aT y | .iaddr _ x i=>aT x++aT i | .iarr _ _ x i=>aT x++aT i | .aidx _ x i=>aT x++aT i
 | .slc _ x lo hi=>aT x++(match lo with |some l=>aT l |none=> [])++(match hi with |some l=>aT l |none=> [])
 | .eqb _ x y=>aT x++aT y | .eqs _ _ x y=>aT x++aT y
 | .len x=>aT x | .mx x y=>aT x++aT y | .mn x y=>aT x++aT y | .extr _ x=>aT x
 | .build _ ps=>aTs (ps.map λp=>p.2.2)
 | .alloc _=> [] | .box x=>aT x | .bslice _ _ _ ps=>aTs (ps.map λp=>p.2)| .mk _ _ _ l c=>aT l++aT c | .app _ _ x y=>aT x++aT y | .cpy _ x y=>aT x++aT y
 | .mkmap _=> [] | .mget _ _ x i=>aT x++aT i | .mput x i y=>aT x++aT i++aT y | .mgetp _ _ x i=>aT x++aT i | .mputp x i y=>aT x++aT i++aT y
 | .call _ xs=>aTs xs
 | .vcall x xs=>aT x++aTs xs
 | .clr _ _ x=>aT x
 | .slen x=>aT x | .sidx x i=>aT x++aT i | .scat x y=>aT x++aT y | .sqs _ x y=>aT x++aT y | .b2s x=>aT x | .s2b x=>aT x | .cpys x y=>aT x++aT y
 | .aslc _ x hi=>aT x++(match hi with |some l=>aT l |none=> [])
 | .ssl x lo hi=>aT x++(match lo with |some l=>aT l |none=> [])++(match hi with |some l=>aT l |none=> [])
 | .slc3 _ x lo hi mx=>aT x++(match lo with |some l=>aT l |none=> [])++aT hi++aT mx
 | .isnil _ x=>aT x
 | .mkfn _ xs=>aTs xs
 | .bad=> []
def gsl:Option (Nat×Bool)->List Nat
 |none=> []
 |some (g,_)=> [g]
def chT:List (Nat×Bool)->List Nat
 | []=> []
 | (g,_)::r=>g::chT r
def chs:bD->List Nat
 | []=> []
 | (_,s)::r=>chT s.ch++chs r
def wrI(SL:bD)(T:List Nat)(m n1:Nat):I->List Nat
 | .st _ x _=>oX (bZ SL [] x)
 | .cpy _ x _=>oX (bZ SL [] x)
 | .clr _ _ x=>oX (bZ SL [] x)
 | .mput x _ _=>oX (bZ SL [] x)
 | .mputp x _ _=>oX (bZ SL [] x)
 | .cpys x _=>oX (bZ SL [] x)
 | .aslc _ x _=>oX (bZ SL [] x)
 | .call f _=>match Nat.beq n1 m with
   |true=> []
   |false=>match gP f gH.ro with
    |true=> []
    |false=>T
 |_=>match Nat.beq n1 m with
  |true=> []
  |false=>T
def aEF(m:Nat):aD->List Nat
 | []=> []
 | (k,_)::r=>match Nat.ble m k with
   |true=>k::aEF m r
   |false=>aEF m r
def aAU(T:List Nat)(m:Nat):aD->Bool
 | []=>true
 | (k,_)::r=>(gP k T||(Nat.ble m k&&Nat.blt k (m+16)))&&aAU T m r
def sH:Option Nat->List Nat->Bool
 |none,_=>true
 |some d,l=> !gP d l
def aGX(SO S1:aD)(W:List Nat):List Nat->Prop
 | []=>True
 |k::r=>match gP k W with
  |true=>aGX SO S1 W r
  |false=>S1.get k=SO.get k/\aGX SO S1 W r
def aCA(SO S1:aD)(W:List Nat)(K:Prop):List Nat->Prop
 | []=>K
 |k::r=>match gP k W with
  |true=>aCA SO S1 W K r
  |false=>S1.get k=SO.get k/\aCA SO S1 W K r
theorem qS {SO S1:aD} {W:List Nat} {K:Prop} :∀ {T:List Nat},aCA SO S1 W K T->aGX SO S1 W T/\K
 | [],h=>⟨trivial,h⟩
 |k::r,h=>by
  simp only [aCA,aGX] at h⊢
  split at h
  ·exact qS h
  ·exact⟨⟨h.1,(qS h.2).1⟩,(qS h.2).2⟩
def aDE(n:Nat):List Nat->Bool
 | []=>true
 |k::r=>Nat.blt k n&&aDE n r
def aFJ:List Nat->List Nat->Bool
 | [],_=>true
 |k::r,l=>gP k l&&aFJ r l
def aFV:List Nat->List Nat->Bool
 | [],_=>true
 |k::r,l=> !gP k l&&aFV r l
def aDH(m:Nat):List Nat->Bool
 | []=>true
 |k::r=>(Nat.blt k m||Nat.ble (m+16) k)&&aDH m r
def aDR(P:Program):St->Nat->Option Nat->Option (Nat×Bool)->I->(Rec->St->Prop)->Prop
 | ⟨ssl,sso,snx⟩,m,d,g,i,K=>
 cS (gsl g++aLQ i) λrds=>qF (look ssl rds) λSL=>rZ SL g λch gc=>cS (sB i SL sso) λT=>dG (iC sso T) λSO=>cS (gsl g++chs SL) λG=>
  dK P SL SO m ch gc i λv S1 n1=>lY v λv=>dG S1 λS1=>cS (wrI SL T m n1 i) λW=>cS (W++aEF m S1) λids=>
   (aAU T m S1&&(sH d G&&(aDE (m+16) ids&&(aFJ W T&&(aFJ (chT ch) G&&(aDH m T&&Nat.ble n1 (m+16)))))))=true/\aCA SO S1 W
   (aEV ssl d ⟨ch,gc,v⟩ λsl=>dG (vW sso S1 ids) λso=>K ⟨m,rds++G,chT ch,d,⟨ch,gc,v⟩,T,ids,S1⟩ ⟨sl,so,snx⟩) T
def nD(P:Program):List pV->List Nat->St->(List Rec->St->Prop)->Prop
 | [],[],st,K=>K [] st
 | ⟨d,g,i⟩::r,m::ms,st,K=>aDR P st m d g i λrc st'=>nD P r ms st' λrs st''=>K (rc::rs) st''
 |_,_,_,_=>False
def indep(r r':Rec):Bool:=
 sH r.d r'.rd&&(sH r'.d r.rd&&((match r.d,r'.d with |some a,some b=> !Nat.beq a b |_,_=>true)&&(aFV r.ids r'.T&&(aFV r.ids r'.ids&&(aFV r'.ids r.T&&aDH r.m r'.ids)))))
def aCV(r:Rec)(i:Nat):List Rec->List (List Nat)->Bool
 |r'::rs,a::an=>(bif gP i a then sH r'.d r.cs else indep r r')&&aCV r i rs an
 |_,_=>true
def nC:List Rec->List (List Nat)->Nat->Bool
 |r::rs,_::an,i=>aCV r i rs an&&nC rs an (i+1)
 |_,_,_=>true
theorem aDZ {d:Nat} {l:List Nat} (h:(!gP d l)=true):d∉l:=λhm=>by rw [gA.2 hm] at h;simp at h
theorem qN {d:Option Nat} {l:List Nat} (h:sH d l=true):∀x∈l,d≠some x:=by
 intro x hx hd;subst hd;exact aDZ h hx
theorem uD {n:Nat} :∀ {l:List Nat},aDE n l=true->∀k∈l,k<n
 | [],_,k,h=>by simp at h
 |a::r,h,k,hk=>by
  simp only [aDE,zF] at h
  rcases List.mem_cons.1 hk with rfl |hk
  ·exact zC h.1
  ·exact uD h.2 k hk
theorem lO:∀ {l l':List Nat},aFJ l l'=true->∀k∈l,k∈l'
 | [],_,_,k,h=>by simp at h
 |a::r,l',h,k,hk=>by
  simp only [aFJ,zF] at h
  rcases List.mem_cons.1 hk with rfl |hk
  ·exact gA.1 h.1
  ·exact lO h.2 k hk
theorem qD:∀ {l l':List Nat},aFV l l'=true->∀k∈l,k∉l'
 | [],_,_,k,h=>by simp at h
 |a::r,l',h,k,hk=>by
  simp only [aFV,zF] at h
  rcases List.mem_cons.1 hk with rfl |hk
  ·exact aDZ h.1
  ·exact qD h.2 k hk
theorem uF {m:Nat} :∀ {l:List Nat},aDH m l=true->∀k∈l,¬(m<=k/\k<m+16)
 | [],_,k,h=>by simp at h
 |a::r,h,k,hk=>by
  simp only [aDH,zF,zN] at h
  rcases List.mem_cons.1 hk with rfl |hk
  ·rcases h.1 with h |h
   ·have :=zC h;omega
   ·have :=zC h;omega
  ·exact uF h.2 k hk
theorem nL {T:List Nat} {m:Nat} :∀ {S:aD},aAU T m S=true->∀k o,S.get k=some o->k∈T\/(m<=k/\k<m+16)
 | [],_,k,o,h=>by simp [aD.get] at h
 | (j,p)::r,h,k,o,hk=>by
   simp only [aAU,zF,zN] at h
   simp only [aD.get] at hk
   split at hk
   ·rename_i hj;subst hj
    rcases h.1 with h | ⟨h1,h2⟩
    ·exact .inl (gA.1 h)
    ·exact .inr ⟨zC h1,zC h2⟩
   ·exact nL h.2 k o hk
theorem pG {m:Nat} :∀ {S:aD} {k:Nat},k∈aEF m S↔m<=k/\∃o,S.get k=some o
 | [],k=>by simp [aEF,aD.get]
 | (j,p)::r,k=>by
   simp only [aEF,aD.get]
   split
   ·rename_i hb
    have :=zC hb
    rw [List.mem_cons,pG]
    by_cases h:k=j
    ·subst h;simp [this]
    ·simp [h]
   ·rename_i hb
    rw [pG]
    by_cases h:k=j
    ·subst h
     have :¬m<=k:=λhle=>by rw [Nat.ble_eq_true_of_le hle] at hb;cases hb
     simp [this]
    ·simp [h]
theorem uV {SO S1:aD} {W:List Nat} :∀ {T:List Nat},aGX SO S1 W T->∀k∈T,k∉W->S1.get k=SO.get k
 | [],_,k,h,_=>by simp at h
 |a::r,h,k,hk,hw=>by
  simp only [aGX] at h
  split at h
  ·rename_i hb
   rcases List.mem_cons.1 hk with rfl |hk
   ·exact absurd (gA.1 hb) hw
   ·exact uV h k hk hw
  ·rcases List.mem_cons.1 hk with rfl |hk
   ·exact h.1
   ·exact uV h.2 k hk hw
theorem vO {x:Nat×Bool} :∀ {l:List (Nat×Bool)},x∈l->x.1∈chT l
 | (g,b)::r,h=>by
   rcases List.mem_cons.1 h with rfl |h
   ·simp [chT]
   ·exact zD _ (vO h)
theorem aP2 {p:Nat×SV} :∀ {l:bD},p∈l->∀x∈p.2.ch,x.1∈chs l
 | (d,s)::r,h,x,hx=>by
   simp only [chs,List.mem_append]
   rcases List.mem_cons.1 h with rfl |h
   ·exact .inl (vO hx)
   ·exact .inr (aP2 h x hx)
structure aM9 [Dfr](U:Nat->Prop)(N:Nat)(σ:Sg)(gs:Nat->Option SV)(S:aD)(n:Nat)(act:Act)(w:World):Prop where
 rel:aW U σ S w n
 sz:act.tmps.size=N
 df:act.defers=Dfr.ds
 sl:∀d s,gs d=some s->SVR (Own U σ S) w σ act.tmps s (act.tmps.getD d undef)
theorem aTQ {l:bD} {d:Nat} {s:SV} :∀t,fL (aF6 l d s) t=if t=d then some s else fL l t:=by
 have hdel:∀(l:bD) (t:Nat),t≠d->fL (aFE l d) t=fL l t:=by
  intro l t ht
  induction l with
  |nil=>rfl
  |cons p r ih=>
   obtain⟨j,q⟩:=p
   simp only [aFE,fL]
   split
   ·rename_i h;subst h;rw [if_neg ht];exact ih
   ·simp only [fL,ih]
 induction l with
 |nil=>intro t;simp only [aF6,fL]
 |cons p r ih=>
  obtain⟨j,q⟩:=p
  intro t
  simp only [aF6]
  split
  ·rename_i h;subst h
   simp only [fL]
   by_cases ht:t=d
   ·simp [ht]
   ·rw [if_neg ht,if_neg ht,if_neg ht];exact hdel r t ht
  ·rename_i h
   simp only [fL,ih]
   by_cases ht:t=j
   ·subst ht;rw [if_pos rfl,if_pos rfl,if_neg (Ne.symm h)]
   ·rw [if_neg ht,if_neg ht]
theorem aKA {l:bD} {d:Option Nat} {s:SV} (t:Nat):fL (aB8 l d s) t=if d=some t then some s else fL l t:=by
 cases d with
 |none=>simp [aB8]
 |some d=>
  simp only [aB8,aTQ,Option.some.injEq]
  by_cases h:t=d
  ·rw [if_pos h,if_pos h.symm]
  ·rw [if_neg h,if_neg (Ne.symm h)]
def Loc [Dfr](P:Program)(N:Nat)(n:Nat)(ops:Array Oper)(o:Oper)(r:Rec)(SL:bD)(SO:aD):Prop:=
 ∀(U:Nat->Prop) (σ:Sg) (gs:Nat->Option SV) (S:aD) (act:Act) (w:World) (next:Act->World->Prop) (Q:Exit->Act->World->Prop),aM9 U N σ gs S n act w->(∀d s,(d,s)∈SL->gs d=some s)->iC S r.T=SO->
  (∀i,i<16->S.get (r.m+i)=none/\σ (r.m+i)=none)->(∀t s,gs t=some s->∀x∈s.ch,r.d≠some x.1)->
  (∀σ' cv w',aM9 U N σ' (λt=>if r.d=some t then some r.s else gs t) (vW S r.S1 r.ids) n (act.put r.d cv) w'->bV σ S w n σ' (vW S r.S1 r.ids) w' n->(∀k,¬(r.m<=k/\k<r.m+16)->σ' k=σ k)->next (act.put r.d cv) w')->
  if Region.wanted o (yielded ops act.tmps) then o.wp P act w next Q else next (act.put o.dst undef) w
structure aST(r:Rec)(m0:Nat):Prop where
 m:r.m=m0
 ids:∀k∈r.ids,k<m0+16
 ids':∀k∈r.ids,k∈r.T\/(m0<=k/\k<m0+16)
 cs:∀x∈r.s.ch,x.1∈r.cs/\x.1∈r.rd
section
variable {P:Program} {N n:Nat}
theorem aR0 [Dfr] {st:St} {m:Nat} {d:Option Nat} {g:Option (Nat×Bool)} {i:I} {K:Rec->St->Prop} (h:aDR P st m d g i K) {ops:Array Oper} {o:Oper} (hi:aZQ P o.op=some i)(hg:aS0 ops N o.guard=some g)(hd:aW1 N o.dst=some d)(hn:m+16<=n):
 ∃r,K r ⟨aB8 st.sl r.d r.s,vW st.so r.S1 r.ids,st.nx⟩/\r.d=d/\aST r m/\∃SL,(∀d s,(d,s)∈SL->d∈r.rd/\fL st.sl d=some s)/\Loc P N n ops o r SL (iC st.so r.T):=by
 obtain⟨ssl,sso,snx⟩:=st
 simp only [aDR,fD,lX,oV] at h
 simp only
 obtain⟨SL,hSL⟩:∃SL,SL=look ssl (gsl g++aLQ i):=⟨_,rfl⟩
 rw [<-hSL] at h
 split at h
 ·exact h.elim
 ·rename_i ch gc hgu
  obtain⟨SO,hSO⟩:∃SO,SO=iC sso (sB i SL sso):=⟨_,rfl⟩
  simp only [eM] at h
  rw [<-hSO] at h
  obtain⟨v,S1,n1,h1,h2⟩:=aKG (st:=⟨SL,SO,m⟩) h
  simp only [gZ,eM,fD,sL,zF] at h1
  obtain⟨⟨k1,k2,k3,k4,k5,k6,k7⟩,hsk⟩:=h1
  obtain⟨hsame,hK⟩:=qS hsk
  have hn1:=zC k7
  refine⟨_,hK,rfl,⟨rfl,uD k3,λk hk=>?_,λx hx=>⟨vO hx,zP _ (lO k5 _ (vO hx))⟩⟩,SL,λd s hm=>?_,?_⟩
  ·rcases List.mem_append.1 hk with hk |hk
   ·exact .inl (lO k4 k hk)
   ·obtain⟨hk1,o,ho⟩:=pG.1 hk
    exact nL k1 k o ho
  ·subst hSL
   exact⟨List.mem_append_left _ (mG hm).1,(mG hm).2⟩
  ·
   rw [<-hSO]
   intro U σ gs S act w next Q hrel hsl hSO' hfree hch hnext
   have hpart:=hrel.rel.part (sB i SL sso)
   simp only at hSO' hfree hch hnext
   rw [hSO'] at hpart
   have hrelS:cX (Uf U σ S (sB i SL sso)) N σ ⟨SL,SO,n⟩ act w:=by
    refine⟨hpart,hrel.sz,hrel.df,λt s hm=>?_⟩
    have :=hrel.sl t s (hsl t s hm)
    have less:∀ {x v},VR (Own U σ S) w σ x v->VR (Own (Uf U σ S (sB i SL sso)) σ SO) w σ x v:=λh=>h.mono (cU.refl _ _) (λb _ hb=>aMA (T:=sB i SL sso) (by rw [hSO'];exact hb)) λ_ _=>rfl
    unfold SVR at this⊢
    split
    ·rename_i hc;rw [hc] at this;exact less this
    ·rename_i gg r hc;rw [hc] at this
     exact⟨this.1,λhh=>⟨(this.2.1 hh).1,less (this.2.1 hh).2⟩,this.2.2⟩
   have hsg:∀x∈ch,x.1∈gsl g++chs SL:=λx hx=>lO k5 _ (vO hx)
   refine aKI (P:=P) hrelS (m:=m) (show m<=n by omega) (λi hi=>⟨?_,(hfree i hi).2⟩) hi hg hd hgu (G:=gsl g++chs SL) (λd s hm x hx=>zP _ (aP2 hm x hx)) (λd' hd' hm=>qN k2 d' hm hd') hsg h2 ?_
   ·rw [<-hSO',iV,(hfree i hi).1];simp
   ·rintro σ' v' S1' n1' cv w' ⟨rfl,rfl,rfl⟩ hge hr' gr-hσ
    have hmx:max n n1'=n:=by omega
    simp only at hr' gr
    rw [hmx] at hr' gr
    have hR:∀k,k∈(wrI SL (sB i SL sso) m n1' i++aEF m S1')->k∈sB i SL sso\/(m<=k/\k<m+16):=λk hk=>by
     rcases List.mem_append.1 hk with hk |hk
     ·exact .inl (lO k4 k hk)
     ·obtain⟨hk1,o,ho⟩:=pG.1 hk
      exact nL k1 k o ho
    have hw:=hrel.rel.whole (T:=sB i SL sso) (σ':=σ') (S1:=S1') (S2:=vW S S1' (wrI SL (sB i SL sso) m n1' i++aEF m S1')) (w':=w') (R:=λk=>k∈sB i SL sso\/(m<=k/\k<m+16)) (λk hk=>.inl hk)
     (λk hk hn=>by
      rcases hk with hk |hk
      ·exact absurd hk hn
      ·have :=(hfree (k-m) (by omega)).1;rwa [show m+(k-m)=k by omega] at this)
     (λk hk=>by
      rw [pK]
      split
      ·rfl
      ·rename_i hnk
       simp only [List.mem_append,not_or] at hnk
       by_cases hT:k∈sB i SL sso
       ·rw [uV hsame k hT hnk.1,<-hSO',iV,if_pos hT]
       ·rcases hk with hk |hk
        ·exact absurd hk hT
        ·have h0:=(hfree (k-m) (by omega)).1
         rw [show m+(k-m)=k by omega] at h0
         rw [h0]
         cases hs1:S1'.get k with
         |none=>rfl
         |some o=>exact absurd (pG.2 ⟨hk.1,o,hs1⟩) hnk.2)
     (λk hk=>by
      refine⟨by rw [pK,if_neg λhm=>hk (hR k hm)],?_,?_⟩
      ·simp only [not_or] at hk
       exact hσ k hk.2
      ·cases hs1:S1'.get k with
       |none=>rfl
       |some o=>exact absurd (nL k1 k o hs1) hk)
     (by rw [hSO'];exact gr) hr'.rel
    obtain⟨g2,r2,o2⟩:=hw
    refine hnext σ' cv w' ⟨r2,hr'.sz,hr'.df,λt s ht=>?_⟩ g2 hσ
    have hdN:∀d',d=some d'->d'<N:=λd' hd'=>by
     unfold aW1 at hd
     split at hd
     ·obtain rfl:=Option.some.inj hd;cases hd'
     ·split at hd
      ·rename_i hlt;obtain rfl:=Option.some.inj hd;obtain rfl:=Option.some.inj hd';exact hlt
      ·cases hd
    split at ht
    ·rename_i htd
     obtain rfl:=Option.some.inj ht
     have hm:(t,(⟨ch,gc,v'⟩:SV))∈aB8 SL d ⟨ch,gc,v'⟩:=by
      rw [htd]
      exact jJ (by rw [aKA,if_pos rfl])
     have :=hr'.sl t _ hm
     have more:∀ {x v},VR (Own (Uf U σ S (sB i SL sso)) σ' S1') w' σ' x v->VR (Own U σ' (vW S S1' (wrI SL (sB i SL sso) m n1' i++aEF m S1'))) w' σ' x v:=λh=>h.mono (cU.refl _ _) (λb _ hb=>o2 b hb) λ_ _=>rfl
     unfold SVR at this⊢
     split
     ·rename_i hc;rw [hc] at this;exact more this
     ·rename_i gg r hc;rw [hc] at this
      exact⟨this.1,λhh=>⟨(this.2.1 hh).1,more (this.2.1 hh).2⟩,this.2.2⟩
    ·rename_i htd
     have hold:=hrel.sl t s ht
     have hval:(act.put d cv).tmps.getD t undef=act.tmps.getD t undef:=by
      cases d with
      |none=>rfl
      |some d=>rw [sM (by rw [hrel.sz];exact hdN d rfl),if_neg (λe=>htd (by rw [e]))]
     have hkeep:∀x∈s.ch,(holds (act.put d cv).tmps x↔holds act.tmps x):=λx hx=>by
      have :=hch t s ht x hx
      cases d with
      |none=>exact Iff.rfl
      |some d=>
       unfold holds
       rw [sM (by rw [hrel.sz];exact hdN d rfl),if_neg (λe=>this (by rw [e]))]
     rw [hval]
     unfold SVR at hold⊢
     split
     ·rename_i hc;rw [hc] at hold;exact hold.grow g2
     ·rename_i gg r hc
      rw [hc] at hold hkeep
      exact⟨λhh=>hold.1 ((hkeep gg (by simp)).1 hh),λhh=>⟨λx hx=>(hkeep x hx).2 ((hold.2.1 hh).1 x hx),(hold.2.1 hh).2.grow g2⟩,hold.2.2⟩
end
end Go.Sk
