/- Caches. -/
import Derived.Test.YtmhapcbjjpadnaaGreatK3m
import Derived.Deep.LoopGhost
import Derived.Orders
set_option linter.unusedSimpArgs false
set_option linter.unusedVariables false
open Array renaming getD_eq_getD_getElem?→zK,getElem?_map→zS
open Bool renaming and_eq_true→zF,or_eq_true→zN
open List renaming mem_cons_of_mem→zD,getElem?_cons_zero→zE,mem_of_getElem?→zG,getElem?_eq_getElem→zL,getElem?_eq_none→zO,mem_append_right→zP,mem_singleton→zR,getElem?_map→zT
open Nat renaming le_of_ble_eq_true→zC,ne_of_beq_eq_false→zH,eq_of_beq_eq_true→zI,le_refl→zJ,sub_zero→zM,zero_le→zQ
open Option renaming map_eq_some_iff→zA
set_option linter.unusedSectionVars false
namespace Go.Sk
open Go Go.RowKit
variable [fQ]
class vF where
 ds:List Deferred
structure SV where
 ch:List (Nat×Bool)
 gc:Bool
 v:V
abbrev aX:=List (Nat×SV)
def eT:aX→Nat→Option SV
 | [],_=>none
 | (j,s)::r,d=>if d=j then some s else eT r d
def aE0:aX→Nat→aX
 | [],_=> []
 | (j,s)::r,d=>if d=j then aE0 r d else(j,s)::aE0 r d
def aDO:aX→Nat→SV→aX
 | [],d,s=> [(d,s)]
 | (j,q)::r,d,s=>if d=j then(d,s)::aE0 r d else(j,q)::aDO r d s
def aA1(l:aX):Option Nat→SV→aX
 |some d,s=>aDO l d s
 |none,_=>l
theorem iP:∀ {l:aX} {d:Nat} {s:SV},eT l d=some s→(d,s)∈l
 | [],_,_,h=>by simp [eT] at h
 | (j,q)::r,d,s,h=>by
   simp only [eT] at h
   split at h
   ·rename_i hd;obtain rfl:=Option.some.inj h;subst hd;simp
   ·exact zD _ (iP h)
theorem aD1:∀ {l:aX} {d:Nat} {p:Nat×SV},p∈aE0 l d→p.1≠d∧p∈l
 | [],_,_,h=>by simp [aE0] at h
 | (j,q)::r,d,p,h=>by
   simp only [aE0] at h
   split at h
   ·have :=aD1 h;exact⟨this.1,zD _ this.2⟩
   ·rename_i hd
    rcases List.mem_cons.1 h with rfl |h
    ·exact⟨Ne.symm hd,by simp⟩
    ·have :=aD1 h;exact⟨this.1,zD _ this.2⟩
theorem uH:∀ {l:aX} {d:Nat} {s:SV} {p:Nat×SV},p∈aDO l d s→p=(d,s)∨(p.1≠d∧p∈l)
 | [],d,s,p,h=>by simp only [aDO,zR] at h;exact .inl h
 | (j,q)::r,d,s,p,h=>by
   simp only [aDO] at h
   split at h
   ·rcases List.mem_cons.1 h with rfl |h
    ·exact .inl rfl
    ·have :=aD1 h;exact .inr ⟨this.1,zD _ this.2⟩
   ·rename_i hd
    rcases List.mem_cons.1 h with rfl |h
    ·exact .inr ⟨Ne.symm hd,by simp⟩
    ·rcases uH h with h |h
     ·exact .inl h
     ·exact .inr ⟨h.1,zD _ h.2⟩
structure St where
 sl:aX
 so:aC
 nx:Nat
def aS9(g:Nat×Bool):List (Nat×Bool)→Bool
 | []=>false
 |h::t=>(g.1==h.1&&g.2==h.2)||aS9 g t
theorem aII {g:Nat×Bool} :∀ {l:List (Nat×Bool)},aS9 g l=true→g∈l
 | [],h=>by simp [aS9] at h
 |a::t,h=>by
  simp only [aS9,zN,zF,beq_iff_eq] at h
  rcases h with ⟨h1,h2⟩|h
  ·have :g=a:=Prod.ext h1 h2
   simp [this]
  ·exact zD _ (aII h)
def bN(sl:aX)(ch:List (Nat×Bool)):A→V
 | .c v=>v
 | .t n=>match eT sl n with
   |some s=>match s.ch with
    | []=>s.v
    |g::_=>if aS9 g ch then s.v else .any
   |none=>.any
def guardOf(sl:aX):Option (Nat×Bool)→Option (List (Nat×Bool)×Bool)
 |none=>some ([],true)
 |some (gd,b)=>match eT sl gd with
  |some s=>match s.v with
   | .bool x=>some ((gd,b)::s.ch,match s.ch with
     | []=>(if b then x else !x)
     |_::_=>s.gc&&(if b then x else !x))
   | .any=>match s.ch,s.gc with
     |_::_,false=>some ((gd,b)::s.ch,false)
     |_,_=>none
   |_=>none
  |none=>none
structure oD where
 d:Option Nat
 g:Option (Nat×Bool)
 i:I
def pE(P:Program)(f:FuncId)(args:List V)(S:aC)(gc:Bool)(K:V→Prop):Prop:=
 ∃res,(gc=true→(∀v∈args,mI S v)∧aQ P f [] (args.map (pur S)) res [])∧(args.all aF6=true∨aA8 res=true)∧K res
inductive lT(A B C D:Prop):Prop where
 |inl (h:A)
 |inr (h:B)
 |frz (h:C)
 |mov (h:D)
def eP(P:Program)(f:FuncId):Prop:=∃fn,P.funcs[f]? =some fn∧fn.body.isSome=true∧(fn.name== "runtime.NumGoroutine")=false
def kH(ssl:aX)(sso:aC)(snx:Nat)(ch:List (Nat×Bool))(gc:Bool)(i:I)(K:V→aC→Nat→Prop):Prop:=
 match ch with
 | []=>mO sso snx i (bN ssl []) K
 |g::r=>(gc=true→mO sso snx i (bN ssl (g::r)) K)∧(gc=false→K .any sso snx)
def cY(P:Program)(ssl:aX)(sso:aC)(snx:Nat)(ch:List (Nat×Bool))(gc:Bool)(i:I)(K:V→aC→Nat→Prop):Prop:=
 match i with
 | .pick (.t tc) a b=>match bN ssl ch (.t tc) with
   | .bool x=>match bN ssl ((tc,true)::ch) a,bN ssl ((tc,false)::ch) b with
     | .bool p,.bool q=>K (.bool (bif x then p else q)) sso snx
     |u,v=>match x with
      |true=>K u sso snx
      |false=>K v sso snx
   |_=>gc=false∧K .any sso snx
 | .build z ps=>match aAH z (ps.map fun p=>(p.1,p.2.1,bN ssl ch p.2.2)) with
   |some cs=>z.all mT=true∧K (.agg cs) sso snx
   |none=>False
 | .call f xs=>lT (pE P f (xs.map (bN ssl ch)) sso gc fun v=>K v sso snx) ((gc=true→mX P f (xs.map (bN ssl ch)) sso snx K)∧(gc=false→K .any sso snx)) ((gc=true→oP P f (xs.map (bN ssl ch)) sso snx K)∧(gc=false→K .any sso snx)) ((gc=true→qR P f (xs.map (bN ssl ch)) sso snx K)∧(gc=false→K .any sso snx))
 | .vcall x xs=>match bN ssl ch x with
   | .fn f caps=>eP P f∧lT (pE P f (xs.map (bN ssl ch)++caps) sso gc fun v=>K v sso snx) ((gc=true→mX P f (xs.map (bN ssl ch)++caps) sso snx K)∧(gc=false→K .any sso snx)) ((gc=true→oP P f (xs.map (bN ssl ch)++caps) sso snx K)∧(gc=false→K .any sso snx)) ((gc=true→qR P f (xs.map (bN ssl ch)++caps) sso snx K)∧(gc=false→K .any sso snx))
   |_=>gc=false∧K .any sso snx
 | .clr es z x=>kH ssl sso snx ch gc (.clr es z x) K
 | .alloc z=>kH ssl sso snx ch gc (.alloc z) K
 | .box x=>kH ssl sso snx ch gc (.box x) K
 | .st m x y=>kH ssl sso snx ch gc (.st m x y) K
 | .mkmap ks=>kH ssl sso snx ch gc (.mkmap ks) K
 | .s2b x=>kH ssl sso snx ch gc (.s2b x) K
 | .aslc n x h=>kH ssl sso snx ch gc (.aslc n x h) K
 | .cpys x y=>kH ssl sso snx ch gc (.cpys x y) K
 | .mput x i y=>kH ssl sso snx ch gc (.mput x i y) K
 | .mputp x i y=>kH ssl sso snx ch gc (.mputp x i y) K
 | .bslice es z m ps=>kH ssl sso snx ch gc (.bslice es z m ps) K
 | .mk es by_ z l c=>kH ssl sso snx ch gc (.mk es by_ z l c) K
 | .app es by_ x y=>kH ssl sso snx ch gc (.app es by_ x y) K
 | .cpy es x y=>kH ssl sso snx ch gc (.cpy es x y) K
 |i=>fB sso i (bN ssl ch) gc fun v=>K v sso snx
def lQ(P:Program)(st:St)(ch:List (Nat×Bool))(gc:Bool)(i:I)(K:V→aC→Nat→Prop):Prop:=cY P st.sl st.so st.nx ch gc i K
def uM(P:Program):List oD→St→(St→Prop)→Prop
 | [],st,K=>K st
 | ⟨d,g,i⟩::r,st,K=>match guardOf st.sl g with
   |some (ch,gc)=>lQ P st ch gc i fun v S n=>uM P r ⟨aA1 st.sl d ⟨ch,gc,v⟩,S,n⟩ K
   |none=>False
def aOD(P:Program):Op→Option I
 | .call { callee:=.value (.func f),args,.. } =>match P.funcs[f]? with
   |some fn=>if fn.body.isSome=true∧(fn.name== "runtime.NumGoroutine")=false then(args.toList.mapM bF).map (.call f) else none
   |none=>none
 | .call { callee:=.value (.tmp t),args,.. } =>(args.toList.mapM bF).map (.vcall (.t t))
 |_=>none
def aJG(P:Program)(o:Op):Option I:=
 match aOD P o with
 |some i=>some i
 |none=>some .bad
def aY3(P:Program)(o:Op):Option I:=
 match aDJ P o with
 |some i=>some i
 |none=>match bD8 P o with
  |some (z,ps)=>some (.build z ps)
  |none=>match aUI P o with
   |some i=>some i
   |none=>aJG P o
def aQ8(ops:Array Oper)(N:Nat):Option (Nat×Bool)→Option (Option (Nat×Bool))
 |none=>some none
 |some (j,b)=>match(ops[j]?).bind (·.dst) with
  |some d=>if d<N then some (some (d,b)) else none
  |none=>none
def aUH(N:Nat):Option Nat→Option (Option Nat)
 |none=>some none
 |some d=>if d<N then some (some d) else none
def dI(P:Program)(ops:Array Oper)(N:Nat):List Oper→Option (List oD)
 | []=>some []
 |o::r=>match aY3 P o.op,aQ8 ops N o.guard,aUH N o.dst,dI P ops N r with
  |some i,some g,some d,some l=>some (⟨d,g,i⟩::l)
  |_,_,_,_=>none
def lD:List Nat→List oD→Bool
 |_,[]=>true
 |G,i::r=>(match i.d with |some d=> !G.contains d |none=>true)&&(match i.g with |some (gd,_)=>(i.d != some gd)&&lD (gd::G) r |none=>lD G r)
def holds(tmps:Array Value)(g:Nat×Bool):Prop:=tmps.getD g.1 undef=.bool g.2
def SVR(O:Nat→Prop)(w:World)(σ:Sg)(tmps:Array Value)(s:SV)(cv:Value):Prop:=
 match s.ch with
 | []=>VR O w σ s.v cv
 |g::r=>(holds tmps g→s.gc=true)∧(s.gc=true→(∀h∈g::r,holds tmps h)∧VR O w σ s.v cv)∧(s.gc=false→cv=undef)
structure cP [vF](U:Nat→Prop)(N:Nat)(σ:Sg)(st:St)(act:Act)(w:World):Prop where
 rel:aS U σ st.so w st.nx
 sz:act.tmps.size=N
 df:act.defers=vF.ds
 sl:∀d s,(d,s)∈st.sl→SVR (Own U σ st.so) w σ act.tmps s (act.tmps.getD d undef)
def GIn(sl:aX)(G:List Nat):Prop:=∀d s,(d,s)∈sl→∀g∈s.ch,g.1∈G
section
variable {P:Program} {U:Nat→Prop} {N:Nat} {σ:Sg} {st:St} {act:Act} {w:World}
theorem kL [vF](h:cP U N σ st act w) {ch:List (Nat×Bool)} (hch:∀g∈ch,holds act.tmps g) {x:Operand} {a:A} (hx:bF x=some a):VR (Own U σ st.so) w σ (bN st.sl ch a) (act.eval x):=by
 cases x with
 |tmp t=>
  simp only [bF,Option.some.injEq] at hx
  subst hx
  simp only [bN,Act.eval]
  split
  ·rename_i s hs
   have :=h.sl t s (iP hs)
   unfold SVR at this
   split
   ·rename_i hc;rw [hc] at this;exact this
   ·rename_i g r hc
    rw [hc] at this
    split
    ·rename_i hg
     exact(this.2.1 (this.1 (hch g (aII hg)))).2
    ·exact .any _
  ·exact .any _
 |const v=>
  simp only [bF,zA] at hx
  obtain⟨y,hy,rfl⟩:=hx
  exact aM8 hy _ _ _
 |func f=>
  simp only [bF,Option.some.injEq] at hx
  subst hx
  exact .fn rfl (by simp)
 |global g=>
  simp only [bF,zA] at hx
  obtain⟨cs,hg,rfl⟩:=hx
  exact(h.rel.gl g cs hg).lift σ
theorem aP5 {op:BinOp} {k:IntKind} {a b:Int} {gc:Bool} {K:V→Prop} (h:aB8 op k a b gc K):∃v,K v:=by
 cases op <;> simp only [aB8] at h <;> first |exact⟨_,h⟩|exact⟨_,h.2⟩
theorem aU6 {S:aC} {i:I} {e:A→V} {gc:Bool} {K:V→Prop} (h:fB S i e gc K):∃v,K v:=by
 unfold fB at h
 repeat' (first |split at h)
 all_goals first
  |exact h.elim
  |exact aP5 h.2
  | (obtain⟨r,h1,-⟩:=qI h;exact⟨_,h1⟩)
  |exact⟨_,h⟩
  |exact⟨_,h.2⟩
  |exact⟨_,h.2.2⟩
theorem qY {a:Act} {d t:Nat} {v:Value} (hd:d<a.tmps.size):(a.put (some d) v).tmps.getD t undef=if t=d then v else a.tmps.getD t undef:=by
 simp only [Act.put,zK]
 by_cases h:t=d
 ·subst h;rw [if_pos rfl,Array.getElem?_setIfInBounds_self_of_lt hd];rfl
 ·rw [if_neg h,Array.getElem?_setIfInBounds_ne (Ne.symm h)]
theorem cP.put [vF](h:cP U N σ st act w) {G:List Nat} (hG:GIn st.sl G) {σ':Sg} {S':aC} {w':World} {n':Nat} (g:bL σ st.so w st.nx σ' S' w' n')(hR':aS U σ' S' w' n')
 {d:Option Nat} (hd:∀d',d=some d'→d'<N∧d'∉G) {s:SV} {cv:Value} (hs:∀tmps',(∀g,g.1∈G→(holds tmps' g↔holds act.tmps g))→SVR (Own U σ' S') w' σ' tmps' s cv):
 cP U N σ' ⟨aA1 st.sl d s,S',n'⟩ (act.put d cv) w' where
 rel:=hR'
 sz:=by cases d <;> simp [Act.put,h.sz]
 df:=by cases d <;> simp [Act.put,h.df]
 sl:=fun t q hq=>by
  have hkeep:∀g:Nat×Bool,g.1∈G→(holds (act.put d cv).tmps g↔holds act.tmps g):=fun g hg=>by
   cases d with
   |none=>exact Iff.rfl
   |some d=>
    obtain⟨h1,h2⟩:=hd d rfl
    unfold holds
    rw [qY (by rw [h.sz];exact h1),if_neg (fun(e:g.1=d)=>h2 (e▸hg))]
  have old:(t,q)∈st.sl→(∀d',d=some d'→t≠d')→SVR (Own U σ' S') w' σ' (act.put d cv).tmps q ((act.put d cv).tmps.getD t undef):=fun hm hne=>by
   have hold:=h.sl t q hm
   have hval:(act.put d cv).tmps.getD t undef=act.tmps.getD t undef:=by
    cases d with
    |none=>rfl
    |some d=>rw [qY (by rw [h.sz];exact(hd d rfl).1),if_neg (hne d rfl)]
   rw [hval]
   unfold SVR at hold⊢
   have hgq:=hG t q hm
   split
   ·rename_i hc;rw [hc] at hold;exact hold.grow g
   ·rename_i gg r hc
    rw [hc] at hold hgq
    refine⟨fun hh=>hold.1 ((hkeep gg (hgq gg (by simp))).1 hh),fun hh=>⟨fun x hx=>(hkeep x (hgq x hx)).2 ((hold.2.1 hh).1 x hx),(hold.2.1 hh).2.grow g⟩,hold.2.2⟩
  cases d with
  |none=>exact old hq fun d' hd'=>by cases hd'
  |some d=>
   rcases uH hq with hq | ⟨hne,hm⟩
   ·obtain⟨rfl,rfl⟩:=Prod.mk.inj hq
    rw [qY (by rw [h.sz];exact(hd _ rfl).1),if_pos rfl]
    exact hs _ hkeep
   ·exact old hm fun d' hd'=>by obtain rfl:=Option.some.inj hd';exact hne
theorem GIn.put {sl:aX} {G:List Nat} (hG:GIn sl G) {d:Option Nat} {s:SV} (hs:∀g∈s.ch,g.1∈G):GIn (aA1 sl d s) G:=by
 intro t q hq
 cases d with
 |none=>exact hG t q hq
 |some d=>
  rcases uH hq with hq | ⟨-,hm⟩
  ·obtain⟨rfl,rfl⟩:=Prod.mk.inj hq;exact hs
  ·exact hG t q hm
theorem tI {ops:Array Oper} {o:Oper} {g:Option (Nat×Bool)} (hg:aQ8 ops N o.guard=some g)(hsz:act.tmps.size=N):
 Region.wanted o (yielded ops act.tmps)=true↔∀x,g=some x→holds act.tmps x:=by
 unfold Region.wanted
 cases ho:o.guard with
 |none=>rw [ho] at hg;simp only [aQ8,Option.some.injEq] at hg;subst hg;simp
 |some jb=>
  obtain⟨j,b⟩:=jb
  rw [ho] at hg
  simp only [aQ8] at hg
  split at hg
  ·rename_i d hd
   split at hg
   ·rename_i hlt
    simp only [Option.some.injEq] at hg
    subst hg
    have hd':d<act.tmps.size:=by rw [hsz];exact hlt
    have hget:act.tmps[d]? =some (act.tmps.getD d undef):=by
     rw [zK,Array.getElem?_eq_getElem hd'];rfl
    simp only [yielded,hd,Option.bind_some,hget,holds,Option.some.injEq,forall_eq']
    constructor
    ·intro h
     split at h
     ·rename_i b' hb
      obtain rfl:b'=b:=by simpa using h
      exact Option.some.inj hb
     ·simp at h
    ·intro h
     rw [h];simp
   ·cases hg
  ·cases hg
theorem aGA [vF](h:cP U N σ st act w) {g:Option (Nat×Bool)} {ch:List (Nat×Bool)} {gc:Bool} (hg:guardOf st.sl g=some (ch,gc)):
 (ch=[]→gc=true∧g=none)∧((∀x,g=some x→holds act.tmps x)→gc=true)∧(gc=true→∀x∈ch,holds act.tmps x)∧(∀x,g=some x→∃r,ch=x::r):=by
 cases g with
 |none=>
  simp only [guardOf,Option.some.injEq,Prod.mk.injEq] at hg
  obtain⟨rfl,rfl⟩:=hg
  simp
 |some gb=>
  obtain⟨gd,b⟩:=gb
  simp only [guardOf] at hg
  split at hg
  ·rename_i s hs
   have hsl:=h.sl gd s (iP hs)
   unfold SVR at hsl
   split at hg
   ·rename_i x hx
    simp only [Option.some.injEq,Prod.mk.injEq] at hg
    obtain⟨rfl,rfl⟩:=hg
    rw [hx] at hsl
    refine⟨by simp,fun hh=>?_,fun hh y hy=>?_,fun y hy=>⟨s.ch,by rw [←Option.some.inj hy]⟩⟩
    ·have h1:act.tmps.getD gd undef=.bool b:=hh _ rfl
     split
     ·rename_i hc
      rw [hc] at hsl
      simp only at hsl
      rw [h1] at hsl
      cases hsl
      cases b <;> rfl
     ·rename_i q r hc
      rw [hc] at hsl
      simp only at hsl
      cases hgc:s.gc with
      |false=>have :=hsl.2.2 hgc;rw [h1] at this;cases this
      |true=>
       have :=(hsl.2.1 hgc).2
       rw [h1] at this
       cases this
       cases b <;> rfl
    ·split at hh
     ·rename_i hc
      rw [hc] at hsl hy
      simp only at hsl
      simp only [zR] at hy
      subst hy
      generalize hv:act.tmps.getD gd undef=v at hsl
      cases hsl
      unfold holds
      rw [hv]
      cases b <;> cases x <;> simp_all
     ·rename_i q r hc
      rw [hc] at hsl hy
      simp only at hsl
      simp only [zF] at hh
      obtain⟨k1,k2⟩:=hsl.2.1 hh.1
      rcases List.mem_cons.1 hy with rfl |hy
      ·generalize hv:act.tmps.getD gd undef=v at k2
       cases k2
       unfold holds
       rw [hv]
       have :=hh.2
       cases b <;> cases x <;> simp_all
      ·exact k1 y hy
   ·split at hg
    ·rename_i q r hc hgc
     simp only [Option.some.injEq,Prod.mk.injEq] at hg
     obtain⟨rfl,rfl⟩:=hg
     rw [hc] at hsl
     simp only at hsl
     refine⟨by simp,fun hh=>?_,(fun hh=>by cases hh),fun y hy=>⟨s.ch,by rw [←Option.some.inj hy]⟩⟩
     have h1:act.tmps.getD gd undef=.bool b:=hh _ rfl
     have :=hsl.2.2 hgc
     rw [h1] at this
     cases this
    ·cases hg
   ·cases hg
  ·cases hg
theorem aQJ {ρ:Operand→Value} {f:FuncId} {fn:Func} {args:Array Operand} {ts:Array TypeId} (hf:P.funcs[f]? =some fn)(hb:fn.body.isSome=true)(hn:(fn.name== "runtime.NumGoroutine")=false)
 (o:Oper) (ho:o.op=.call { callee:=.value (.func f),args,argTypes:=ts }) (hρ:ρ (.func f)=.func (.func f) #[] #[]):(execOp ρ o).run P w=.ok (.enter f (args.map ρ)) w:=by
 have hb':¬fn.body=none:=fun h=>by rw [h] at hb;simp at hb
 have hn':¬fn.name= "runtime.NumGoroutine" :=fun h=>by rw [h] at hn;simp at hn
 simp [execOp,ho,resolve,hρ,Deferred.ofValue,invoke,callFunc,hf,hn',hb']
theorem aQK {ρ:Operand→Value} {f:FuncId} {t:Nat} {caps:Array Value} (hc:eP P f) {args:Array Operand} {ts:Array TypeId}
 (o:Oper) (ho:o.op=.call { callee:=.value (.tmp t),args,argTypes:=ts }) (hρ:ρ (.tmp t)=.func (.func f) #[] caps):(execOp ρ o).run P w=.ok (.enter f (args.map ρ++caps)) w:=by
 obtain⟨fn,hf,hb,hn⟩:=hc
 have hb':¬fn.body=none:=fun h=>by rw [h] at hb;simp at hb
 have hn':¬fn.name= "runtime.NumGoroutine" :=fun h=>by rw [h] at hn;simp at hn
 simp [execOp,ho,resolve,hρ,Deferred.ofValue,invoke,callFunc,hf,hn',hb']
theorem aF2 {l:List Operand} {xs:List A} (h:l.mapM bF=some xs):xs.length=l.length∧∀(i:Nat) x a,l[i]? =some x→xs[i]? =some a→bF x=some a:=by
 induction l generalizing xs with
 |nil=>simp only [List.mapM_nil] at h;obtain rfl:=Option.some.inj h;simp
 |cons y r ih=>
  rw [List.mapM_cons] at h
  cases hy:bF y with
  |none=>rw [hy] at h;cases h
  |some a=>
   rw [hy] at h
   cases hr:r.mapM bF with
   |none=>rw [hr] at h;cases h
   |some as=>
    rw [hr] at h
    obtain rfl:=Option.some.inj h
    obtain⟨h1,h2⟩:=ih hr
    refine⟨by simp [h1],fun i x b hx hb=>?_⟩
    cases i with
    |zero=>simp only [zE,Option.some.injEq] at hx hb;subst hx hb;exact hy
    |succ i=>exact h2 i x b (by simpa using hx) (by simpa using hb)
theorem aPM {ch:List (Nat×Bool)} {gc:Bool} {i:I} {K:V→aC→Nat→Prop} (h:lQ P st ch gc i K)(hc:ch≠ [])(hgf:gc=false):∃v,K v st.so st.nx:=by
 unfold lQ cY at h
 split at h
 ·split at h
  ·split at h
   ·exact⟨_,h⟩
   ·split at h
    ·exact⟨_,h⟩
    ·exact⟨_,h⟩
  ·exact⟨_,h.2⟩
 ·split at h
  ·exact⟨_,h.2⟩
  ·cases h
 ·rcases h with ⟨res,-,-,h⟩|h |h |h
  ·exact⟨_,h⟩
  ·exact⟨_,h.2 hgf⟩
  ·exact⟨_,h.2 hgf⟩
  ·exact⟨_,h.2 hgf⟩
 ·split at h
  ·rcases h.2 with ⟨res,-,-,h⟩|h |h |h
   ·exact⟨_,h⟩
   ·exact⟨_,h.2 hgf⟩
   ·exact⟨_,h.2 hgf⟩
   ·exact⟨_,h.2 hgf⟩
  ·exact⟨_,h.2⟩
 all_goals first
  | (revert h;unfold kH;cases ch with
     |nil=>exact absurd rfl hc
     |cons g r=>intro h;exact⟨_,h.2 hgf⟩)
  |exact aU6 h
def aWZ:I→Bool
 | .mv _=>true | .un _ _=>true | .bin _ _ _=>true | .conv _ _=>true | .nilck _=>true | .faddr _ _=>true | .fget _ _ _ _=>true | .ld _ _ _=>true
 | .iaddr _ _ _=>true | .iarr _ _ _ _=>true | .aidx _ _ _=>true | .slc3 _ _ _ _ _=>true | .isnil _ _=>true | .mkfn _ _=>true | .slc _ _ _ _=>true | .len _=>true | .eqb _ _ _=>true | .eqs _ _ _ _=>true | .mx _ _=>true | .mn _ _=>true | .extr _ _=>true | .mget _ _ _ _=>true | .mgetp _ _ _ _=>true
 | .slen _=>true | .sidx _ _=>true | .ssl _ _ _=>true | .scat _ _=>true | .sqs _ _ _=>true | .b2s _=>true
 |_=>false
def bBV:I→Bool
 | .alloc _=>true | .box _=>true | .st _ _ _=>true | .bslice _ _ _ _=>true | .mk _ _ _ _ _=>true | .mkmap _=>true | .mputp _ _ _=>true | .mput _ _ _=>true | .app _ _ _ _=>true | .cpy _ _ _=>true | .clr _ _ _=>true | .s2b _=>true | .aslc _ _ _=>true | .cpys _ _=>true
 |_=>false
theorem aWV {ch:List (Nat×Bool)} {gc:Bool} {i:I} (h:aWZ i=true)(K:V→aC→Nat→Prop):lQ P st ch gc i K=fB st.so i (bN st.sl ch) gc fun v=>K v st.so st.nx:=by
 cases i <;> first |rfl | (simp [aWZ] at h)
theorem aWW {ch:List (Nat×Bool)} {gc:Bool} {i:I} (h:bBV i=true)(K:V→aC→Nat→Prop):lQ P st ch gc i K=kH st.sl st.so st.nx ch gc i K:=by
 cases i <;> first |rfl | (simp [bBV] at h)
theorem aLT {o:Op} {i:I} (h:aJI P o=some i):aWZ i=true∨∃c a b c' a' b',o=.pick c a b∧i=.pick c' a' b'∧bF c=some c'∧bF a=some a'∧bF b=some b':=by
 unfold aJI at h
 split at h
 case h_3=>
  split at h
  ·rename_i h1 h2 h3
   obtain rfl:=Option.some.inj h
   exact .inr ⟨_,_,_,_,_,_,rfl,rfl,h1,h2,h3⟩
  ·cases h
 all_goals
  left
  first
   | (simp only [zA] at h;obtain⟨a,h1,rfl⟩:=h;rfl)
   |skip
 all_goals
  repeat' (first | (cases h;done)| (obtain rfl:=Option.some.inj h;rfl)| (simp only [zA] at h;obtain⟨a,h1,rfl⟩:=h;rfl)|split at h)
theorem aJJ {o:Op} {i:I} (h:aDJ P o=some i):aWZ i=true∨∃c a b c' a' b',o=.pick c a b∧i=.pick c' a' b'∧bF c=some c'∧bF a=some a'∧bF b=some b':=by
 unfold aDJ at h
 split at h
 ·rename_i h1;obtain rfl:=Option.some.inj h;exact aLT h1
 ·left
  unfold aY4 at h
  split at h
  all_goals
   repeat' (first | (cases h;done)| (obtain rfl:=Option.some.inj h;rfl)| (simp only [zA] at h;obtain⟨a,h1,rfl⟩:=h;rfl)|split at h)
theorem aQA {o:Op} {i:I} (h:aUI P o=some i):bBV i=true:=by
 unfold aUI at h
 split at h
 all_goals
  repeat' (first | (cases h;done)| (obtain rfl:=Option.some.inj h;rfl)| (simp only [zA] at h;obtain⟨a,h1,rfl⟩:=h;rfl)|split at h)
theorem bDM {S:aC} {n:Nat} {i:I} {e:A→V} {K:V→aC→Nat→Prop} (h:mO S n i e K):mO S n i e fun v S' n'=>n≤n'∧K v S' n':=by
 revert h
 unfold mO
 repeat' split
 all_goals intro h
 all_goals first
  |exact h.elim
  |exact⟨by omega,h⟩
  |exact⟨h.1,by omega,h.2⟩
  |exact⟨h.1,h.2.1,by omega,h.2.2⟩
  |exact⟨h.1,h.2.1,h.2.2.1,by omega,h.2.2.2⟩
  |exact⟨h.1,h.2.1,h.2.2.1,h.2.2.2.1,by omega,h.2.2.2.2⟩
  |exact⟨h.1,h.2.1,h.2.2.1,h.2.2.2.1,h.2.2.2.2.1,by omega,h.2.2.2.2.2⟩
  |exact⟨h.1,h.2.1,h.2.2.1,h.2.2.2.1,h.2.2.2.2.1,h.2.2.2.2.2.1,by omega,h.2.2.2.2.2.2⟩
  | (obtain⟨h1,h2,h3⟩:=h
     refine⟨h1,h2,?_⟩
     revert h3
     repeat' split
     all_goals intro h
     all_goals first
      |exact h.elim
      |exact⟨h.1,h.2.1,by omega,h.2.2⟩
      |exact⟨h.1,h.2.1,h.2.2.1,h.2.2.2.1,h.2.2.2.2.1,by omega,h.2.2.2.2.2⟩)
theorem aIM [vF](h:cP U N σ st act w) {m:Nat} (hmn:m≤st.nx)(hfree:∀i,i<16→st.so.get (m+i)=none∧σ (m+i)=none) {ops:Array Oper} {o:Oper} {i:I} {g:Option (Nat×Bool)} {d:Option Nat} (hi:aY3 P o.op=some i)(hg:aQ8 ops N o.guard=some g)(hd:aUH N o.dst=some d)
 {ch:List (Nat×Bool)} {gc:Bool} (hgu:guardOf st.sl g=some (ch,gc)) {G:List Nat} (hG:GIn st.sl G) (hdG:∀d',d=some d'→d'∉G) (hchG:∀x∈ch,x.1∈G)
 {KF:V→aC→Nat→Prop} (hK:lQ P ⟨st.sl,st.so,m⟩ ch gc i KF) {next:Act→World→Prop} {Q:Exit→Act→World→Prop}
 (hnext:∀σ' v S' n1 cv w',KF v S' n1→m≤n1→cP U N σ' ⟨aA1 st.sl d ⟨ch,gc,v⟩,S',max st.nx n1⟩ (act.put d cv) w'→bL σ st.so w st.nx σ' S' w' (max st.nx n1)→GIn (aA1 st.sl d ⟨ch,gc,v⟩) G→(∀k,¬(m≤k∧k<m+16)→σ' k=σ k)→next (act.put d cv) w'):
 if Region.wanted o (yielded ops act.tmps) then o.wp P act w next Q else next (act.put o.dst undef) w:=by
 obtain⟨c1,c2,c3,c4⟩:=aGA h hgu
 have hdd:o.dst=d∧∀d',d=some d'→d'<N:=by
  unfold aUH at hd
  split at hd
  ·rename_i h0;obtain rfl:=Option.some.inj hd;exact⟨h0,fun _ h=>by cases h⟩
  ·rename_i d0 h0
   split at hd
   ·rename_i hlt;obtain rfl:=Option.some.inj hd;exact⟨h0,fun d' hd'=>by obtain rfl:=Option.some.inj hd';exact hlt⟩
   ·cases hd
 obtain⟨hdst,hdN⟩:=hdd
 have hdNG:∀d',d=some d'→d'<N∧d'∉G:=fun d' h=>⟨hdN d' h,hdG d' h⟩
 have hch':∀(s:SV),s.ch=ch→∀g∈s.ch,g.1∈G:=fun s hs g hg=>hchG g (hs▸hg)
 rw [hdst]
 by_cases hw:Region.wanted o (yielded ops act.tmps)=true
 ·rw [if_pos hw]
  have hgc:gc=true:=c2 ((tI hg h.sz).1 hw)
  subst hgc
  have hold:=c3 rfl
  have hall:∀x a,bF x=some a→VR (Own U σ st.so) w σ (bN st.sl ch a) (act.eval x):=fun x a hx=>kL h hold hx
  have fin:∀(v:V) (cv:Value) (σ':Sg) (S':aC) (w':World) (n':Nat),KF v S' n'→m≤n'→(∀k,¬(m≤k∧k<m+16)→σ' k=σ k)→VR (Own U σ' S') w' σ' v cv→aS U σ' S' w' (max st.nx n')→bL σ st.so w st.nx σ' S' w' (max st.nx n')→next (act.put d cv) w':=by
   intro v cv σ' S' w' n' hK hmn' hσ hv hR' g
   refine hnext σ' v S' n' cv w' hK hmn' (h.put hG g hR' hdNG fun tmps' ht=>?_) g (hG.put (hch' _ rfl)) hσ
   unfold SVR
   split
   ·exact hv
   ·rename_i gg r hc
    refine⟨fun _=>rfl,fun _=>⟨fun x hx=>?_,hv⟩,fun h=>by cases h⟩
    have hc':ch=gg::r:=hc
    exact(ht x (hchG x (hc'▸hx))).2 (hold x (hc'▸hx))
  have hmx:max st.nx m=st.nx:=by omega
  have rd:fR P U σ st.so w act.eval o.op (fun v=>KF v st.so m)→o.wp P act w next Q:=by
   rintro ⟨v,cv,hk,hv,hrun⟩
   unfold Oper.wp
   rw [hrun w o rfl (sA.refl w),Oper.upon_value,hdst]
   exact fin v cv σ st.so w m hk (zJ _) (fun _ _=>rfl) hv (by rw [hmx];exact h.rel) (by rw [hmx];exact bL.refl _ _ _ _)
  have wr:oG P U σ st.so w st.nx m act.eval o.op (fun v S n=>m≤n∧KF v S n)→o.wp P act w next Q:=by
   rintro ⟨v,S',n',⟨hge,hk⟩,hrun⟩
   obtain⟨nx,cv,w',σ',h1,h2,hσ,h3,h4,h5⟩:=hrun o rfl
   have hσ':∀k,¬(m≤k∧k<m+16)→σ' k=σ k:=fun k hk=>hσ k (by omega)
   unfold Oper.wp
   rw [h1]
   rcases h2 with rfl | ⟨rfl,rfl⟩
   ·rw [Oper.upon_value,hdst];exact fin v cv σ' S' w' n' hk hge hσ' h5 h4 h3
   ·rw [Oper.upon_skip,hdst];exact fin v _ σ' S' w' n' hk hge hσ' h5 h4 h3
  unfold aY3 at hi
  split at hi
  ·rename_i i' hi'
   obtain rfl:=Option.some.inj hi
   rcases aJJ hi' with hrd | ⟨c,a,b,c',a',b',ho,rfl,e1,e2,e3⟩
   ·rw [aWV hrd] at hK
    exact rd (aQ5 hi' (fun _=>rfl) h.rel hall hK)
   ·refine rd ?_
    simp only [lQ,cY] at hK
    split at hK
    ·rename_i tc a'' b'' heq
     obtain⟨rfl,rfl,rfl⟩:=I.pick.inj heq
     split at hK
     ·rename_i x hx
      obtain⟨t,rfl⟩:∃t,c=.tmp t:=by
       cases c with
       |tmp t=>exact⟨t,rfl⟩
       |const v=>simp only [bF,zA] at e1;obtain⟨_,_,h⟩:=e1;cases h
       |func f=>simp [bF] at e1
       |global g=>simp only [bF,zA] at e1;obtain⟨_,_,h⟩:=e1;cases h
      obtain rfl:t=tc:=by simpa [bF] using e1
      have hcv:=hall _ _ e1
      rw [hx] at hcv
      generalize hvc:act.eval (.tmp t)=vc at hcv
      cases hcv
      have hgx:holds act.tmps (t,x):=hvc
      have run:∀(w':World) (o':Oper),o'.op=o.op→(execOp act.eval o').run P w'=.ok (.value (if x=true then act.eval a else act.eval b)) w':=by
       intro w' o' ho'
       simp [execOp,ho',ho,hvc,asBool]
      have ha:x=true→VR (Own U σ st.so) w σ (bN st.sl ((t,true)::ch) a') (act.eval a):=fun hx=>kL h (ch:=(t,true)::ch) (fun g hg=>by rcases List.mem_cons.1 hg with rfl |hg;exact hx▸hgx;exact hold g hg) e2
      have hb:x=false→VR (Own U σ st.so) w σ (bN st.sl ((t,false)::ch) b') (act.eval b):=fun hx=>kL h (ch:=(t,false)::ch) (fun g hg=>by rcases List.mem_cons.1 hg with rfl |hg;exact hx▸hgx;exact hold g hg) e3
      split at hK
      ·rename_i p q hp hq
       cases x with
       |true=>
        have :=ha rfl
        rw [hp] at this
        exact⟨_,act.eval a,hK,this,fun w' o' ho' _=>by rw [run w' o' ho'];rfl⟩
       |false=>
        have :=hb rfl
        rw [hq] at this
        exact⟨_,act.eval b,hK,this,fun w' o' ho' _=>by rw [run w' o' ho'];rfl⟩
      ·split at hK
       ·exact⟨_,act.eval a,hK,ha rfl,fun w' o' ho' _=>by rw [run w' o' ho'];rfl⟩
       ·exact⟨_,act.eval b,hK,hb rfl,fun w' o' ho' _=>by rw [run w' o' ho'];rfl⟩
     ·exact absurd hK.1 (by simp)
    all_goals first
     | (rename_i heq;cases heq;done)
     |exact(show False from hK).elim
  ·split at hi
   ·rename_i z ps hb
    obtain rfl:=Option.some.inj hi
    simp only [lQ,cY] at hK
    split at hK
    ·rename_i cs hcs
     obtain⟨hz,hK⟩:=hK
     obtain⟨cv,hv,hrun⟩:=aHO (P:=P) hb hz hall hcs
     exact rd ⟨_,cv,hK,hv,fun w' o' ho' _=>hrun w' o' ho'⟩
    ·cases hK
   ·split at hi
    ·rename_i i' hi'
     obtain rfl:=Option.some.inj hi
     rw [aWW (aQA hi')] at hK
     unfold kH at hK
     have hK:mO st.so m i' (bN st.sl ch) KF:=by
      cases ch with
      |nil=>exact hK
      |cons g r=>exact hK.1 rfl
     exact wr (aV8 hi' h.rel (hfree 0 (by omega)) hmn (fun x a hx=>kL h hold hx) (bDM hK))
    ·unfold aJG at hi
     split at hi
     case h_2=>obtain rfl:=Option.some.inj hi;exact hK.elim
     rename_i _ ic hic
     obtain rfl:=Option.some.inj hi
     clear hi
     have hi:=hic
     unfold aOD at hi
     split at hi
     ·rename_i f args ts hop
      split at hi
      ·rename_i fn hfn
       split at hi
       ·rename_i hb
        simp only [zA] at hi
        obtain⟨xs,hxs,rfl⟩:=hi
        simp only [lQ,cY] at hK
        obtain⟨hlen,hget⟩:=aF2 hxs
        have hargs:∀(i:Nat) v c,(xs.map (bN st.sl ch))[i]? =some v→(args.map act.eval)[i]? =some c→VR (Own U σ st.so) w σ v c:=fun i v c hv hc=>by
         rw [zT,zA] at hv
         obtain⟨a,ha,rfl⟩:=hv
         rw [zS,zA] at hc
         obtain⟨x,hx,rfl⟩:=hc
         exact hall x a (hget i x a (by simpa using hx) ha)
        unfold Oper.wp
        rw [aQJ hfn hb.1 hb.2 o hop rfl,Oper.upon_enter]
        rcases hK with ⟨res,hf,hbor,hK⟩| ⟨hK,-⟩| ⟨hK,-⟩| ⟨hK,-⟩
        ·obtain⟨hok,hfc⟩:=hf rfl
         refine(aAQ h.rel (args:=xs.map (bN st.sl ch)) (by simp [hlen]) hargs hok hfc hbor).mono fun e w' ⟨cv,he,hv,hkp⟩=>?_
         subst he
         rw [hdst]
         exact fin res cv σ st.so w' m hK (zJ _) (fun _ _=>rfl) hv (by rw [hmx];exact h.rel.of_keep hkp) (by rw [hmx];exact bL.of_keep hkp)
        ·obtain⟨L,ob0,ob1,res,hfc,hlent,hnd,hle,hle2,hK⟩:=hK trivial
         refine(aB3 h.rel hfree (args:=xs.map (bN st.sl ch)) (by simp [hlen]) hargs hfc hlent hnd (zC hle) (zC hle2)).mono fun e w' ⟨cv,σ',he,hσ,g,r,hv⟩=>?_
         subst he
         rw [hdst]
         exact fin _ cv σ' _ w' _ hK (by omega) hσ hv r g
        ·obtain⟨Fz,res,hfc,hok,hK⟩:=hK trivial
         refine(aAG h.rel (args:=xs.map (bN st.sl ch)) (by simp [hlen]) hargs hok hfc).mono fun e w' ⟨cv,he,hv,hkp⟩=>?_
         subst he
         rw [hdst]
         have hR1:=(h.rel.frz Fz).of_keep hkp
         have hG1:bL σ st.so w st.nx σ (iJ st.so Fz) w' st.nx:=(bL.frz Fz).trans (bL.of_keep hkp)
         exact fin res cv σ _ w' _ hK (by omega) (fun _ _=>rfl) hv ⟨hR1.obj,hR1.inj,fun k hk=>hR1.fresh k (by omega),hR1.disj,hR1.ulim,hR1.gl⟩ ⟨hG1.keep,hG1.own,hG1.sg,by omega⟩
        ·obtain⟨L,ob0,ob1,res,hfc,hlent,hnd,hle2,hK⟩:=hK trivial
         refine(aAN h.rel hfree (args:=xs.map (bN st.sl ch)) (by simp [hlen]) hargs hfc hlent hnd (zC hle2)).mono fun e w' ⟨cv,σ',he,hσ,g,r,hv⟩=>?_
         subst he
         rw [hdst]
         exact fin _ cv σ' _ w' _ hK (by omega) hσ hv r g
       ·cases hi
      ·cases hi
     ·rename_i t args ts hop
      simp only [zA] at hi
      obtain⟨xs,hxs,rfl⟩:=hi
      simp only [lQ,cY] at hK
      have hfv:=hall (.tmp t) (.t t) rfl
      split at hK
      ·rename_i f caps hcl0
       obtain⟨hcal,hK⟩:=hK
       rw [hcl0] at hfv
       generalize hva:act.eval (.tmp t)=va at hfv
       cases hfv with
       | @fn _ _ _ arr hn0 hcaps=>
       obtain⟨hlen,hget⟩:=aF2 hxs
       have hargs:∀(i:Nat) v c,(xs.map (bN st.sl ch)++caps)[i]? =some v→(args.map act.eval++arr)[i]? =some c→VR (Own U σ st.so) w σ v c:=fun i v c hv hc=>by
        rw [List.getElem?_append,List.length_map] at hv
        rw [Array.getElem?_append,Array.size_map] at hc
        have hsz:xs.length=args.size:=by simpa using hlen
        split at hv
        ·rename_i hlt
         rw [if_pos (by omega)] at hc
         rw [zT,zA] at hv
         obtain⟨a,ha,rfl⟩:=hv
         rw [zS,zA] at hc
         obtain⟨x,hx,rfl⟩:=hc
         exact hall x a (hget i x a (by simpa using hx) ha)
        ·rename_i hlt
         rw [if_neg (by omega),←hsz] at hc
         exact hcaps _ v c hv hc
       have hsz2:(args.map act.eval++arr).size=(xs.map (bN st.sl ch)++caps).length:=by
        have hsz:xs.length=args.size:=by simpa using hlen
        simp [hsz,hn0]
       unfold Oper.wp
       rw [aQK hcal o hop hva,Oper.upon_enter]
       rcases hK with ⟨res,hf,hbor,hK⟩| ⟨hK,-⟩| ⟨hK,-⟩| ⟨hK,-⟩
       ·obtain⟨hok,hfc⟩:=hf rfl
        refine(aAQ h.rel (args:=xs.map (bN st.sl ch)++caps) hsz2 hargs hok hfc hbor).mono fun e w' ⟨cv,he,hv,hkp⟩=>?_
        subst he
        rw [hdst]
        exact fin res cv σ st.so w' m hK (zJ _) (fun _ _=>rfl) hv (by rw [hmx];exact h.rel.of_keep hkp) (by rw [hmx];exact bL.of_keep hkp)
       ·obtain⟨L,ob0,ob1,res,hfc,hlent,hnd,hle,hle2,hK⟩:=hK trivial
        refine(aB3 h.rel hfree (args:=xs.map (bN st.sl ch)++caps) hsz2 hargs hfc hlent hnd (zC hle) (zC hle2)).mono fun e w' ⟨cv,σ',he,hσ,g,r,hv⟩=>?_
        subst he
        rw [hdst]
        exact fin _ cv σ' _ w' _ hK (by omega) hσ hv r g
       ·obtain⟨Fz,res,hfc,hok,hK⟩:=hK trivial
        refine(aAG h.rel (args:=xs.map (bN st.sl ch)++caps) hsz2 hargs hok hfc).mono fun e w' ⟨cv,he,hv,hkp⟩=>?_
        subst he
        rw [hdst]
        have hR1:=(h.rel.frz Fz).of_keep hkp
        have hG1:bL σ st.so w st.nx σ (iJ st.so Fz) w' st.nx:=(bL.frz Fz).trans (bL.of_keep hkp)
        exact fin res cv σ _ w' _ hK (by omega) (fun _ _=>rfl) hv ⟨hR1.obj,hR1.inj,fun k hk=>hR1.fresh k (by omega),hR1.disj,hR1.ulim,hR1.gl⟩ ⟨hG1.keep,hG1.own,hG1.sg,by omega⟩
       ·obtain⟨L,ob0,ob1,res,hfc,hlent,hnd,hle2,hK⟩:=hK trivial
        refine(aAN h.rel hfree (args:=xs.map (bN st.sl ch)++caps) hsz2 hargs hfc hlent hnd (zC hle2)).mono fun e w' ⟨cv,σ',he,hσ,g,r,hv⟩=>?_
        subst he
        rw [hdst]
        exact fin _ cv σ' _ w' _ hK (by omega) hσ hv r g
      ·exact absurd hK.1 (by simp)
     ·cases hi
 ·rw [if_neg hw]
  have hne:ch≠ []:=fun h0=>hw ((tI hg h.sz).2 fun x hx=>by rw [(c1 h0).2] at hx;cases hx)
  have hgf:gc=false:=by
   cases hgc:gc with
   |false=>rfl
   |true=>
    refine absurd ((tI hg h.sz).2 fun x hx=>?_) hw
    obtain⟨r,hr⟩:=c4 x hx
    exact c3 hgc x (by rw [hr];simp)
  obtain⟨v,hv⟩:=aPM hK hne hgf
  have hmx:max st.nx m=st.nx:=by omega
  refine hnext σ v _ _ undef w hv (zJ _) (h.put hG (by rw [hmx];exact bL.refl _ _ _ _) (by rw [hmx];exact h.rel) hdNG fun tmps' ht=>?_) (by rw [hmx];exact bL.refl _ _ _ _) (hG.put (hch' _ rfl)) (fun _ _=>rfl)
  unfold SVR
  split
  ·rename_i hc;exact absurd hc hne
  ·rename_i gg r hc
   refine⟨fun hh=>?_,⟨fun hg'=>absurd (show gc=true from hg') (by simp [hgf]),fun _=>rfl⟩⟩
   have hc':ch=gg::r:=hc
   have :=(ht gg (hchG gg (by rw [hc'];simp))).1 hh
   cases hgg:g with
   |none=>
    rw [hgg] at hgu
    simp only [guardOf,Option.some.injEq,Prod.mk.injEq] at hgu
    rw [←hgu.1] at hne;exact absurd rfl hne
   |some x=>
    obtain⟨r',hr'⟩:=c4 x hgg
    rw [hc'] at hr'
    obtain⟨rfl,-⟩:=List.cons.inj hr'
    exact c2 fun y hy=>by rw [hgg] at hy;obtain rfl:=Option.some.inj hy;exact this
end
end Go.Sk
namespace Go.Sk
open Go Go.RowKit
variable [fQ]
def aCQ(k:Nat):List (Option Nat)→Bool
 | []=>false
 |some j::r=>Nat.beq k j||aCQ k r
 |none::r=>aCQ k r
theorem qK:∀ {k:Nat} {l:List (Option Nat)},aCQ k l=false→some k∉l
 |_,[],_=>by simp
 |k,some j::r,h=>by
  simp only [aCQ,Bool.or_eq_false_iff] at h
  have h1:k≠j:=zH h.1
  have h2:=qK h.2
  simp [h1,h2]
 |k,none::r,h=>by
  simp only [aCQ] at h
  have h2:=qK h
  simp [h2]
def oW:List (Option Nat)→Bool
 | []=>true
 |none::r=>oW r
 |some k::r=> !aCQ k r&&oW r
def vw1(S:aC)(ids:List (Option Nat))(x y:V):Prop:=
 match y with
 | .any=>True
 | .sl j off len=>match x with
   | .sl k off' len'=>ids[j]? =some (some k)∧off'=off∧len'=len
   | .slk k off' len' _=>ids[j]? =some (some k)∧off'=off∧len'=len
   | .lst _ t xs=>ids[j]? =some none∧t=true∧xs=[]∧off=0∧len=0
   |_=>False
 | .slk j off len c=>match x with
   | .slk k off' len' c'=>ids[j]? =some (some k)∧off'=off∧len'=len∧c'=c
   |_=>False
 | .ptr j i c=>match x with
   | .ptr k i' c'=>ids[j]? =some (some k)∧i'=i∧c'=c
   |_=>False
 | .mp j=>match x with
   | .mp k=>ids[j]? =some (some k)
   |_=>False
 | .lst es t xs=>match x with
   | .lst es' t' xs'=>(es'=es∨xs=[])∧(t=true→t'=true)∧xs'=xs
   | .sl k off len=>match S.get k with
     |some (.row es' xs')=>es'=es∧t=false∧off+len≤xs'.length∧(xs'.drop off).take len=xs∧aCQ k ids=false
     |_=>False
   | .slk k off len c=>match S.get k with
     |some (.row es' xs')=>es'=es∧(t=true→c=len)∧off+len≤xs'.length∧(xs'.drop off).take len=xs∧aCQ k ids=false
     |_=>False
   |_=>False
 | .int k m=>match x with
   | .int k' m'=>k'=k∧m'=m
   |_=>False
 | .bool b=>match x with
   | .bool b'=>b'=b
   |_=>False
 | .str s=>x=.str s
 | .nil=>x=.nil
 | .val v=>x=.val v
 | .rp es cs c=>x=.rp es cs c
 |_=>False
def aHK(p:V→V→Prop):List V→List V→Prop
 | [],[]=>True
 |x::xs,y::ys=>p x y∧aHK p xs ys
 |_,_=>False
theorem qA {p:V→V→Prop} :∀ {xs ys:List V},aHK p xs ys→xs.length=ys.length∧∀(i:Nat) y,ys[i]? =some y→∃x,xs[i]? =some x∧p x y
 | [],[],_=>by simp
 | [],_::_,h=>h.elim
 |_::_,[],h=>h.elim
 |x::xs,y::ys,h=>by
  obtain⟨h1,h2⟩:=h
  obtain⟨h3,h4⟩:=qA h2
  refine⟨by simp [h3],fun i z hz=>?_⟩
  cases i with
  |zero=>simp only [zE,Option.some.injEq] at hz;subst hz;exact⟨x,rfl,h1⟩
  |succ i=>exact h4 i z (by simpa using hz)
def vw2(S:aC)(ids:List (Option Nat))(x y:V):Prop:=
 match y with
 | .agg ys=>match x with
   | .agg xs=>aHK (vw1 S ids) xs ys
   |_=>False
 | .fn g ys=>match x with
   | .fn f xs=>f=g∧aHK (vw1 S ids) xs ys
   |_=>False
 |y=>vw1 S ids x y
def vw3(S:aC)(ids:List (Option Nat))(x y:V):Prop:=
 match y with
 | .tup ys=>match x with
   | .tup xs=>aHK (vw2 S ids) xs ys
   |_=>False
 |y=>vw2 S ids x y
def aUY(S:aC)(ids:List (Option Nat))(x y:Obj):Prop:=
 match x,y with
 | .row es xs,.row es' ys=>es=es'∧xs=ys
 | .box xs,.box ys=>aHK (vw1 S ids) xs ys
 | .mp xs,.mp ys=>xs=ys
 | .bb xs,.bb ys=>xs=ys
 | .box xs,.row es rows=>es=xs.length∧rows=[xs]∧xs.all bW=true
 |_,_=>False
def mN(S:aC)(ids:List (Option Nat)):List (Option Nat)→List Obj→Prop
 | [],[]=>True
 |some k::r,o::os=>(match S.get k with |some p=>aUY S ids p o |none=>False)∧mN S ids r os
 |none::r,o::os=>(match o with | .row _ xs=>xs=[] |_=>False)∧mN S ids r os
 |_,_=>False
def vU:List (Option Nat)→Prop
 | []=>True
 |none::r=>vU r
 |some k::r=>some k∉r∧vU r
theorem nR:∀ {l:List (Option Nat)},oW l=true→vU l
 | [],_=>trivial
 |none::r,h=>nR (l:=r) h
 |some k::r,h=>by
  simp only [oW,zF,Bool.not_eq_true'] at h
  exact⟨qK h.1,nR h.2⟩
def mA:Nat→Nat→List (Option Nat)→Prop
 |_,0,_=>True
 |i,m+1,some k::r=>k=i∧mA (i+1) m r
 |_,_+1,_=>False
theorem mB:∀(m i:Nat) (ids:List (Option Nat)),mA i m ids→∀j,j<m→ids[j]? =some (some (i+j))
 |0,_,_,_,j,hj=>by omega
 |m+1,i,some k::r,h,j,hj=>by
  obtain⟨rfl,h⟩:=h
  cases j with
  |zero=>rfl
  |succ j=>
   have :=mB m (k+1) r h j (by omega)
   rw [List.getElem?_cons_succ,this]
   congr 2;omega
 |m+1,i,[],h,j,hj=>h.elim
 |m+1,i,none::r,h,j,hj=>h.elim
theorem aD5:∀ {l:List (Option Nat)},vU l→∀(i j k:Nat),l[i]? =some (some k)→l[j]? =some (some k)→i=j
 | [],_,i,j,k,h,_=>by simp at h
 |a::r,hn,i,j,k,hi,hj=>by
  have hr:vU r:=by cases a <;> first |exact hn |exact hn.2
  cases i with
  |zero=>
   simp only [zE,Option.some.injEq] at hi
   subst hi
   cases j with
   |zero=>rfl
   |succ j=>exact absurd (zG (by simpa using hj)) hn.1
  |succ i=>
   cases j with
   |zero=>
    simp only [zE,Option.some.injEq] at hj
    subst hj
    exact absurd (zG (by simpa using hi)) hn.1
   |succ j=>rw [aD5 hr i j k (by simpa using hi) (by simpa using hj)]
theorem gJ {S:aC} {ids:List (Option Nat)} :∀ {l:List (Option Nat)} {obs:List Obj},mN S ids l obs→l.length=obs.length∧∀(j:Nat) o,obs[j]? =some o→
 (∃k p,l[j]? =some (some k)∧S.get k=some p∧aUY S ids p o)∨(l[j]? =some none∧∃es,o=.row es [])
 | [],[],_=>by simp
 | [],_::_,h=>h.elim
 |some _::_,[],h=>h.elim
 |none::_,[],h=>h.elim
 |some k::r,o::os,h=>by
  obtain⟨h1,h2⟩:=h
  obtain⟨h3,h4⟩:=gJ h2
  refine⟨by simp [h3],fun j q hq=>?_⟩
  cases j with
  |zero=>
   simp only [zE,Option.some.injEq] at hq
   subst hq
   split at h1
   ·rename_i p hp;exact .inl ⟨k,p,rfl,hp,h1⟩
   ·cases h1
  |succ j=>simpa using h4 j q (by simpa using hq)
 |none::r,o::os,h=>by
  obtain⟨h1,h2⟩:=h
  obtain⟨h3,h4⟩:=gJ h2
  refine⟨by simp [h3],fun j q hq=>?_⟩
  cases j with
  |zero=>
   simp only [zE,Option.some.injEq] at hq
   subst hq
   split at h1
   ·subst h1;exact .inr ⟨rfl,_,rfl⟩
   ·cases h1
  |succ j=>simpa using h4 j q (by simpa using hq)
def pU(σ:Sg)(ids:List (Option Nat))(obs:List Obj):Sg:=fun j=>
 match ids[j]? with
 |some (some k)=>σ k
 |some none=>match obs[j]? with
  |some (.row es _)=>some (none,es,0)
  |_=>none
 |none=>none
section
variable {U:Nat→Prop} {σ:Sg} {S:aC} {w:World} {n:Nat} {ids:List (Option Nat)} {obs:List Obj}
theorem kD(hobs:mN S ids ids obs) {b:Nat} (h:gB (pU σ ids obs) (aL 0 obs) b):∃(j k:Nat) (p:Obj) (es cap:Nat),ids[j]? =some (some k)∧S.get k=some p∧σ k=some (some b,es,cap):=by
 obtain⟨j,o,es,cap,hj,hs⟩:=h
 rw [cQ,if_pos (zQ _),zM] at hj
 rcases(gJ hobs).2 j o hj with ⟨k,p,h1,h2,h3⟩| ⟨h1,es',rfl⟩
 ·simp only [pU,h1] at hs
  exact⟨j,k,p,es,cap,h1,h2,hs⟩
 ·simp [pU,h1,hj] at hs
theorem jJ(hobs:mN S ids ids obs) {b:Nat} (h:Own U (pU σ ids obs) (aL 0 obs) b):Own U σ S b:=
 h.imp id fun h=>by obtain⟨j,k,p,es,cap,-,h2,h3⟩:=kD hobs h;exact⟨k,p,es,cap,h2,h3⟩
theorem aHB(hR:aS U σ S w n)(hobs:mN S ids ids obs) {x y:V} {v:Value} (h:vw1 S ids x y)(hv:VR (Own U σ S) w σ x v):VR (Own U (pU σ ids obs) (aL 0 obs)) w (pU σ ids obs) y v:=by
 have sub:∀ {x v},VR (Own U σ S) w (fun _=>none) x v→∀σ',VR (Own U (pU σ ids obs) (aL 0 obs)) w σ' x v:=fun h σ'=>(h.mono (cM.refl _ _) (fun b _ h=>jJ hobs h) fun _ _=>rfl:VR _ _ (fun _=>none) _ _).lift σ'
 have hlen:=(gJ hobs).1
 unfold vw1 at h
 split at h
 ·exact .any _
 ·split at h
  ·obtain⟨h1,rfl,rfl⟩:=h
   have hσ:∀j k,ids[j]? =some (some k)→pU σ ids obs j=σ k:=fun j k h=>by simp [pU,h]
   cases hv with
   |sl hs hle ha=>exact .sl ((hσ _ _ h1).trans hs) hle ha
   |sl0 hs=>exact .sl0 ((hσ _ _ h1).trans hs)
  ·obtain⟨h1,rfl,rfl⟩:=h
   have hσ:∀j k,ids[j]? =some (some k)→pU σ ids obs j=σ k:=fun j k h=>by simp [pU,h]
   cases hv with
   |slk hs hle ha hc=>subst hc;exact .sl ((hσ _ _ h1).trans hs) hle ha
   |slk0 hs=>exact .sl0 ((hσ _ _ h1).trans hs)
  ·obtain⟨h1,rfl,rfl,rfl,rfl⟩:=h
   cases hv with
   |lst b o cv ha hes hcap ht hc1 hc3 hc2=>
    have hcap0:=ht rfl
    subst hcap0
    obtain⟨hj,-⟩:=List.getElem?_eq_some_iff.1 h1
    rcases(gJ hobs).2 _ _ (zL (hlen▸hj)) with ⟨k,p,h1',-⟩| ⟨-,es,he⟩
    ·rw [h1] at h1';cases h1'
    ·exact .sl0 (es:=es) (by simp [pU,h1,zL (hlen▸hj),he])
  ·cases h
 ·split at h
  ·obtain⟨h1,rfl,rfl,rfl⟩:=h
   have hσ:∀j k,ids[j]? =some (some k)→pU σ ids obs j=σ k:=fun j k h=>by simp [pU,h]
   cases hv with
   |slk hs hle ha hc=>exact .slk ((hσ _ _ h1).trans hs) hle ha hc
   |slk0 hs=>exact .slk0 ((hσ _ _ h1).trans hs)
  ·cases h
 ·split at h
  ·obtain⟨h1,rfl,rfl⟩:=h
   have hσ:∀j k,ids[j]? =some (some k)→pU σ ids obs j=σ k:=fun j k h=>by simp [pU,h]
   cases hv with
   |ptr hs=>exact .ptr ((hσ _ _ h1).trans hs)
  ·cases h
 ·split at h
  ·have hσ:∀j k,ids[j]? =some (some k)→pU σ ids obs j=σ k:=fun j k h=>by simp [pU,h]
   cases hv with
   |mp hs=>exact .mp ((hσ _ _ h).trans hs)
  ·cases h
 ·split at h
  ·obtain⟨h1,h2,rfl⟩:=h
   refine sub ?_ _
   cases hv with
   | @lst _ _ _ _ ad cap b o cv ha hes hcap ht hc1 hc3 hc2=>
     rcases h1 with rfl |rfl
     ·exact .lst b o cv ha hes hcap (fun hh=>ht (h2 hh)) hc1 hc3 hc2
     ·exact .lst (xs:= []) b o cv (by simp) (by simp) hcap (fun hh=>ht (h2 hh)) (by simp) (by simp) (by simp)
  ·split at h
   ·rename_i k off len _ es' xs' ho
    obtain⟨rfl,rfl,hle,rfl,hk⟩:=h
    exact(aH3 hR (fun b h=>jJ hobs h) hv ho hle fun b es cap hs hown=>by
     rcases hown with hu |hown
     ·exact hR.disj b ⟨k,_,_,_,ho,hs⟩ hu
     ·obtain⟨j,k',p,es',cap',h1,h2,h3⟩:=kD hobs hown
      obtain rfl:=hR.inj k k' _ _ b es cap es' cap' ho h2 hs h3
      exact qK hk (zG h1)).lift _
   ·cases h
  ·split at h
   ·rename_i k off len c _ es' xs' ho
    obtain⟨rfl,ht,hle,rfl,hk⟩:=h
    exact(aH4 hR (fun b h=>jJ hobs h) hv ho hle (fun b es cap hs hown=>by
     rcases hown with hu |hown
     ·exact hR.disj b ⟨k,_,_,_,ho,hs⟩ hu
     ·obtain⟨j,k',p,es',cap',h1,h2,h3⟩:=kD hobs hown
      obtain rfl:=hR.inj k k' _ _ b es cap es' cap' ho h2 hs h3
      exact qK hk (zG h1)) _ ht).lift _
   ·cases h
  ·cases h
 ·split at h
  ·obtain⟨rfl,rfl⟩:=h;cases hv;exact .int _ _
  ·cases h
 ·split at h
  ·obtain rfl:=h;cases hv;exact .bool _
  ·cases h
 ·subst h;exact sub (aU hv rfl) _
 ·subst h;exact sub (aU hv rfl) _
 ·subst h;cases hv;exact .val _
 ·subst h;exact sub (aU hv rfl) _
 ·cases h
theorem aMA(hR:aS U σ S w n)(hobs:mN S ids ids obs) {x y:V} {v:Value} (h:vw2 S ids x y)(hv:VR (Own U σ S) w σ x v):VR (Own U (pU σ ids obs) (aL 0 obs)) w (pU σ ids obs) y v:=by
 unfold vw2 at h
 split at h
 ·split at h
  ·obtain⟨h1,h2⟩:=qA h
   cases hv with
   |agg hn hc=>
    refine .agg (by rw [hn,h1]) fun i y u hy hu=>?_
    obtain⟨x,hx,hxy⟩:=h2 i y hy
    exact aHB hR hobs hxy (hc i x u hx hu)
  ·cases h
 ·split at h
  ·obtain⟨rfl,h⟩:=h
   obtain⟨h1,h2⟩:=qA h
   cases hv with
   |fn hn hc=>
    refine .fn (by rw [hn,h1]) fun i y u hy hu=>?_
    obtain⟨x,hx,hxy⟩:=h2 i y hy
    exact aHB hR hobs hxy (hc i x u hx hu)
  ·cases h
 ·exact aHB hR hobs h hv
theorem aMB(hR:aS U σ S w n)(hobs:mN S ids ids obs) {x y:V} {v:Value} (h:vw3 S ids x y)(hv:VR (Own U σ S) w σ x v):VR (Own U (pU σ ids obs) (aL 0 obs)) w (pU σ ids obs) y v:=by
 unfold vw3 at h
 split at h
 ·split at h
  ·obtain⟨h1,h2⟩:=qA h
   cases hv with
   |tup hn hc=>
    refine .tup (by rw [hn,h1]) fun i y u hy hu=>?_
    obtain⟨x,hx,hxy⟩:=h2 i y hy
    exact aMA hR hobs hxy (hc i x u hx hu)
  ·cases h
 ·exact aMA hR hobs h hv
theorem aS.view(hR:aS U σ S w n)(hobs:mN S ids ids obs)(hnd:vU ids):aS U (pU σ ids obs) (aL 0 obs) w obs.length where
 obj:=fun j o hj=>by
  rw [cQ,if_pos (zQ _),zM] at hj
  rcases(gJ hobs).2 j o hj with ⟨k,p,h1,h2,h3⟩| ⟨h1,es',rfl⟩
  ·have hob:=hR.obj k p h2
   have hs:pU σ ids obs j=σ k:=by simp [pU,h1]
   rw [hs]
   unfold aUY at h3
   split at h3
   ·obtain⟨rfl,rfl⟩:=h3
    obtain⟨hl,h⟩:=hob
    refine⟨hl,?_⟩
    rcases hσ:σ k with _ | ⟨_ |b,es',cap⟩
    ·rw [hσ] at h;exact h
    ·rw [hσ] at h;exact h
    ·rw [hσ] at h
     obtain⟨e1,e2,arr,ty,e3,e4,e5⟩:=h
     refine⟨e1,e2,arr,ty,e3,e4,fun i x c y hx hy=>?_⟩
     obtain⟨u,q1,q2,q3⟩:=e5 i x c y hx hy
     exact⟨u,q1,q2,q3.mono (cM.refl _ _) (fun b _ h=>jJ hobs h) fun _ _=>rfl⟩
   ·obtain⟨hl,hg⟩:=qA h3
    obtain⟨b,e1,arr,ty,e3,e4,e5⟩:=hob
    refine⟨b,by rw [e1,hl],arr,ty,e3,by rw [e4,hl],fun c y hy=>?_⟩
    obtain⟨x,hx,hxy⟩:=hg c y hy
    obtain⟨u,q1,q2,q3⟩:=e5 c x hx
    exact⟨u,q1,q2,aHB hR hobs hxy q3⟩
   ·subst h3
    obtain⟨b,e1,es,ck,e3,e4,e5⟩:=hob
    refine⟨b,e1,es,ck,e3,e4,fun i p hp=>?_⟩
    obtain⟨en,q1,q2,q3⟩:=e5 i p hp
    exact⟨en,q1,q2,q3.mono (cM.refl _ _) (fun b _ h=>jJ hobs h) fun _ _=>rfl⟩
   ·subst h3
    exact hob
   ·rename_i xs es rows
    obtain⟨rfl,rfl,hf⟩:=h3
    obtain⟨b,e1,arr,ty,e3,e4,e5⟩:=hob
    refine⟨fun x hx=>by rw [List.mem_singleton.1 hx],?_⟩
    rw [e1]
    refine⟨rfl,⟨by simp,by omega⟩,arr,(ty,false),e3,by rw [Nat.one_mul,e4];exact zJ _,fun i x c y hx hy=>?_⟩
    cases i with
    |succ i=>simp at hx
    |zero=>
     simp only [zE,Option.some.injEq] at hx
     subst hx
     obtain⟨u,q1,q2,q3⟩:=e5 c y hy
     exact⟨u,by rw [Nat.zero_mul,Nat.zero_add];exact q1,q2,(aU q3 (List.all_eq_true.1 hf y (zG hy))).mono (cM.refl _ _) (fun b _ h=>jJ hobs h) fun _ _=>rfl⟩
   ·cases h3
  ·exact⟨by simp,by simp [pU,h1,hj]⟩
 inj:=fun j j' o o' b es cap es' cap' hj hj' hs hs'=>by
  rw [cQ,if_pos (zQ _),zM] at hj hj'
  rcases(gJ hobs).2 j o hj with ⟨k,p,h1,h2,h3⟩| ⟨h1,es1,rfl⟩
  ·rcases(gJ hobs).2 j' o' hj' with ⟨k',p',h1',h2',h3'⟩| ⟨h1',es1,rfl⟩
   ·simp only [pU,h1] at hs
    simp only [pU,h1'] at hs'
    obtain rfl:=hR.inj k k' p p' b es cap es' cap' h2 h2' hs hs'
    exact aD5 hnd j j' k h1 h1'
   ·simp [pU,h1',hj'] at hs'
  ·simp [pU,h1,hj] at hs
 fresh:=fun j hj=>by
  have hlen:=(gJ hobs).1
  refine⟨by rw [cQ,if_pos (zQ _),zM,zO (by omega)],?_⟩
  simp [pU,zO (show ids.length≤j by omega)]
 disj:=fun b hb hu=>by
  obtain⟨j,k,p,es,cap,-,h2,h3⟩:=kD hobs hb
  exact hR.disj b ⟨k,p,es,cap,h2,h3⟩ hu
 ulim:=hR.ulim
 gl:=hR.gl.less fun b h=>jJ hobs h
end
end Go.Sk
namespace Go.Sk
open Go Go.RowKit
variable [fQ]
def kU:V→(V→Prop)→Prop
 | .any,K=>K .any
 | .int k n,K=>K (.int k n)
 | .bool b,K=>K (.bool b)
 | .str s,K=>K (.str s)
 | .agg cs,K=>K (.agg cs)
 | .tup cs,K=>K (.tup cs)
 | .nil,K=>K .nil
 | .ptr k i c,K=>K (.ptr k i c)
 | .rp es cs c,K=>K (.rp es cs c)
 | .sl k off len,K=>K (.sl k off len)
 | .slx k off len,K=>K (.slx k off len)
 | .slk k off len c,K=>K (.slk k off len c)
 | .lst es t xs,K=>K (.lst es t xs)
 | .fn f cs,K=>K (.fn f cs)
 | .mp k,K=>K (.mp k)
 | .val v,K=>K (.val v)
theorem gD(v:V)(K:V→Prop):kU v K=K v:=by cases v <;> rfl
def gV:List V→(List V→Prop)→Prop
 | [],K=>K []
 |v::r,K=>kU v fun v=>gV r fun r=>K (v::r)
theorem eK:∀(l:List V) (K:List V→Prop),gV l K=K l
 | [],_=>rfl
 |v::r,K=>by simp only [gV,gD,eK r]
def cV:aC→(aC→Prop)→Prop
 | [],K=>K []
 | (j,.row es xs)::r,K=>cV r fun r'=>K ((j,.row es xs)::r')
 | (j,.box cs)::r,K=>gV cs fun cs=>cV r fun r'=>K ((j,.box cs)::r')
 | (j,.mp xs)::r,K=>cV r fun r'=>K ((j,.mp xs)::r')
 | (j,.bb l)::r,K=>cV r fun r'=>K ((j,.bb l)::r')
theorem dV:∀(S:aC) (K:aC→Prop),cV S K=K S
 | [],_=>rfl
 | (j,.row es xs)::r,K=>by simp only [cV,dV r]
 | (j,.box cs)::r,K=>by simp only [cV,eK,dV r]
 | (j,.mp xs)::r,K=>by simp only [cV,dV r]
 | (j,.bb l)::r,K=>by simp only [cV,dV r]
def aI0:aX→Nat→(aX→Prop)→Prop
 | [],_,K=>K []
 | (j,q)::r,d,K=>match Nat.beq d j with
   |true=>aI0 r d K
   |false=>aI0 r d fun r'=>K ((j,q)::r')
theorem aCE:∀(l:aX) (d:Nat) (K:aX→Prop),aI0 l d K=K (aE0 l d)
 | [],_,_=>rfl
 | (j,q)::r,d,K=>by
   simp only [aI0,aE0]
   cases h:Nat.beq d j with
   |true=>rw [if_pos (zI h)];exact aCE r d K
   |false=>rw [if_neg (zH h)];exact aCE r d _
def aOI:aX→Nat→SV→(aX→Prop)→Prop
 | [],d,s,K=>K [(d,s)]
 | (j,q)::r,d,s,K=>match Nat.beq d j with
   |true=>aI0 r d fun r'=>K ((d,s)::r')
   |false=>aOI r d s fun r'=>K ((j,q)::r')
theorem aJP:∀(l:aX) (d:Nat) (s:SV) (K:aX→Prop),aOI l d s K=K (aDO l d s)
 | [],_,_,_=>rfl
 | (j,q)::r,d,s,K=>by
   simp only [aOI,aDO]
   cases h:Nat.beq d j with
   |true=>rw [if_pos (zI h)];exact aCE r d _
   |false=>rw [if_neg (zH h)];exact aJP r d s _
def aDI(l:aX)(d:Option Nat)(s:SV)(K:aX→Prop):Prop:=
 match d with
 |some d=>aOI l d s K
 |none=>K l
theorem qX(l:aX)(d:Option Nat)(s:SV)(K:aX→Prop):aDI l d s K=K (aA1 l d s):=by
 cases d with
 |none=>rfl
 |some d=>exact aJP l d s K
def cG:Nat→Nat→Nat→(Nat→Prop)→Prop
 |0,_,n,K=>K n
 |f+1,i,n,K=>match Nat.beq n i with
  |true=>K i
  |false=>cG f (i+1) n K
theorem dQ:∀(f i n:Nat) (K:Nat→Prop),cG f i n K=K n
 |0,_,_,_=>rfl
 |f+1,i,n,K=>by
  simp only [cG]
  cases h:Nat.beq n i with
  |true=>rw [zI h]
  |false=>exact dQ f (i+1) n K
def cL:List Nat→(List Nat→Prop)→Prop
 | [],K=>K []
 |k::r,K=>cL r fun r'=>K (k::r')
theorem eJ:∀(l:List Nat) (K:List Nat→Prop),cL l K=K l
 | [],_=>rfl
 |k::r,K=>by simp only [cL,eJ r]
def oR:aX→(aX→Prop)→Prop
 | [],K=>K []
 | (d,⟨ch,gc,v⟩)::r,K=>kU v fun v=>oR r fun r'=>K ((d,⟨ch,gc,v⟩)::r')
theorem kT:∀(l:aX) (K:aX→Prop),oR l K=K l
 | [],_=>rfl
 | (d,⟨ch,gc,v⟩)::r,K=>by simp only [oR,gD,kT r]
def qJ(sl:aX)(g:Option (Nat×Bool))(K:List (Nat×Bool)→Bool→Prop):Prop:=
 match g with
 |none=>K [] true
 |some (gd,b)=>match eT sl gd with
  |some ⟨ch,gc,v⟩=>(match v with
   | .bool x=>(match ch,b with
     | [],true=>K [(gd,true)] x
     | [],false=>K [(gd,false)] (!x)
     |c::r,true=>K ((gd,true)::c::r) (gc&&x)
     |c::r,false=>K ((gd,false)::c::r) (gc&& !x))
   | .any=>(match ch,gc with
     |c::r,false=>K ((gd,b)::c::r) false
     |_,_=>False)
   |_=>False)
  |none=>False
theorem nD(sl:aX)(g:Option (Nat×Bool))(K:List (Nat×Bool)→Bool→Prop):qJ sl g K=match guardOf sl g with
 |none=>False
 |some (ch,gc)=>K ch gc:=by
 cases g with
 |none=>rfl
 |some p=>
  obtain⟨gd,b⟩:=p
  simp only [qJ,guardOf]
  cases h:eT sl gd with
  |none=>rfl
  |some s=>
   obtain⟨ch,gc,v⟩:=s
   cases v <;> first |rfl | (cases ch <;> cases b <;> rfl)| (cases ch <;> cases gc <;> rfl)
end Go.Sk
namespace Go.Sk
open Go Go.RowKit
variable [fQ]
theorem aRF {op:BinOp} {k:IntKind} {a b:Int} {gc:Bool} {K:V→Prop} (h:aB8 op k a b gc K):∃v,K v∧aB8 op k a b gc fun v'=>v'=v:=by
 cases op <;> simp only [aB8] at h⊢<;> first |exact⟨_,h,rfl⟩|exact⟨_,h.2,h.1,rfl⟩
theorem aGT {S:aC} {i:I} {e:A→V} {gc:Bool} {K:V→Prop} (h:fB S i e gc K):∃v,K v∧fB S i e gc fun v'=>v'=v:=by
 revert h
 unfold fB
 repeat' split
 all_goals intro h
 all_goals first
  |exact h.elim
  | (obtain⟨v,h1,h2⟩:=aRF h.2;exact⟨v,h1,h.1,h2⟩)
  | (obtain⟨r,h1,h2⟩:=qI h;exact⟨_,h1,nB (fun r' e=>by subst e;rfl) h2⟩)
  |exact⟨_,h,rfl⟩
  |exact⟨_,h.2,h.1,rfl⟩
  |exact⟨_,h.2.2,h.1,h.2.1,rfl⟩
theorem aOT {S:aC} {n:Nat} {i:I} {e:A→V} {K:V→aC→Nat→Prop} (h:mO S n i e K):∃v S' n',K v S' n'∧mO S n i e fun a b c=>a=v∧b=S'∧c=n':=by
 revert h
 unfold mO
 repeat' split
 all_goals intro h
 all_goals first
  |exact h.elim
  |exact⟨_,_,_,h,rfl,rfl,rfl⟩
  |exact⟨_,_,_,h.2,h.1,rfl,rfl,rfl⟩
  |exact⟨_,_,_,h.2.2,h.1,h.2.1,rfl,rfl,rfl⟩
  |exact⟨_,_,_,h.2.2.2,h.1,h.2.1,h.2.2.1,rfl,rfl,rfl⟩
  |exact⟨_,_,_,h.2.2.2.2,h.1,h.2.1,h.2.2.1,h.2.2.2.1,rfl,rfl,rfl⟩
  |exact⟨_,_,_,h.2.2.2.2.2,h.1,h.2.1,h.2.2.1,h.2.2.2.1,h.2.2.2.2.1,rfl,rfl,rfl⟩
  |exact⟨_,_,_,h.2.2.2.2.2.2,h.1,h.2.1,h.2.2.1,h.2.2.2.1,h.2.2.2.2.1,h.2.2.2.2.2.1,rfl,rfl,rfl⟩
  | (obtain⟨h1,h2,h3⟩:=h
     revert h3
     repeat' split
     all_goals intro h
     all_goals first
      |exact h.elim
      |exact⟨_,_,_,h.2.2,h1,h2,h.1,h.2.1,rfl,rfl,rfl⟩
      |exact⟨_,_,_,h.2.2.2.2.2,h1,h2,h.1,h.2.1,h.2.2.1,h.2.2.2.1,h.2.2.2.2.1,rfl,rfl,rfl⟩)
theorem aIK {P:Program} {st:St} {ch:List (Nat×Bool)} {gc:Bool} {i:I} {K:V→aC→Nat→Prop} (h:lQ P st ch gc i K):
 ∃v S n,K v S n∧lQ P st ch gc i fun a b c=>a=v∧b=S∧c=n:=by
 have rd:∀i,lQ P st ch gc i K→(∀K,lQ P st ch gc i K=fB st.so i (bN st.sl ch) gc fun v=>K v st.so st.nx)→∃v S n,K v S n∧lQ P st ch gc i fun a b c=>a=v∧b=S∧c=n:=by
  intro i h he
  rw [he] at h
  obtain⟨v,h1,h2⟩:=aGT h
  exact⟨v,_,_,h1,by rw [he];simpa using h2⟩
 have wr:∀i,lQ P st ch gc i K→(∀K,lQ P st ch gc i K=kH st.sl st.so st.nx ch gc i K)→∃v S n,K v S n∧lQ P st ch gc i fun a b c=>a=v∧b=S∧c=n:=by
  intro i h he
  rw [he] at h
  unfold kH at h
  cases ch with
  |nil=>
   obtain⟨v,S,n,h1,h2⟩:=aOT h
   exact⟨v,S,n,h1,by rw [he];exact h2⟩
  |cons g r=>
   cases gc with
   |true=>
    obtain⟨v,S,n,h1,h2⟩:=aOT (h.1 rfl)
    exact⟨v,S,n,h1,by rw [he];exact⟨fun _=>h2,(by intro h;cases h)⟩⟩
   |false=>exact⟨_,_,_,h.2 rfl,by rw [he];exact⟨(by intro h;cases h),fun _=>⟨rfl,rfl,rfl⟩⟩⟩
 cases i with
 |pick c a b=>
  cases c with
  |c v=>exact rd _ h fun _=>rfl
  |t tc=>
   simp only [lQ,cY] at h⊢
   split at h
   ·split at h
    ·exact⟨_,_,_,h,rfl,rfl,rfl⟩
    ·split at h
     ·exact⟨_,_,_,h,rfl,rfl,rfl⟩
     ·exact⟨_,_,_,h,rfl,rfl,rfl⟩
   ·exact⟨_,_,_,h.2,h.1,rfl,rfl,rfl⟩
 |build z ps=>
  simp only [lQ,cY] at h⊢
  split at h
  ·rename_i cs hcs
   exact⟨_,_,_,h.2,h.1,rfl,rfl,rfl⟩
  ·exact h.elim
 |call f xs=>
  simp only [lQ,cY] at h⊢
  rcases h with ⟨res,h1,h2,h3⟩| ⟨ha,hb⟩| ⟨ha,hb⟩| ⟨ha,hb⟩
  ·exact⟨_,_,_,h3,.inl ⟨res,h1,h2,rfl,rfl,rfl⟩⟩
  ·cases gc with
   |false=>exact⟨_,_,_,hb rfl,.inr ⟨(fun h=>by cases h),fun _=>⟨rfl,rfl,rfl⟩⟩⟩
   |true=>
    obtain⟨L,ob0,ob1,res,h1,h2,h3,h5,h6,h7⟩:=ha rfl
    exact⟨_,_,_,h7,.inr ⟨fun _=>⟨L,ob0,ob1,res,h1,h2,h3,h5,h6,rfl,rfl,rfl⟩,(fun h=>by cases h)⟩⟩
  ·cases gc with
   |false=>exact⟨_,_,_,hb rfl,.frz ⟨(fun h=>by cases h),fun _=>⟨rfl,rfl,rfl⟩⟩⟩
   |true=>
    obtain⟨Fz,res,h1,h2,h3⟩:=ha rfl
    exact⟨_,_,_,h3,.frz ⟨fun _=>⟨Fz,res,h1,h2,rfl,rfl,rfl⟩,(fun h=>by cases h)⟩⟩
  ·cases gc with
   |false=>exact⟨_,_,_,hb rfl,.mov ⟨(fun h=>by cases h),fun _=>⟨rfl,rfl,rfl⟩⟩⟩
   |true=>
    obtain⟨L,ob0,ob1,res,h1,h2,h3,h4,h5⟩:=ha rfl
    exact⟨_,_,_,h5,.mov ⟨fun _=>⟨L,ob0,ob1,res,h1,h2,h3,h4,rfl,rfl,rfl⟩,(fun h=>by cases h)⟩⟩
 |vcall x xs=>
  simp only [lQ,cY] at h⊢
  split at h
  ·rename_i f caps hx
   obtain⟨hc,h⟩:=h
   rcases h with ⟨res,h1,h2,h3⟩| ⟨ha,hb⟩| ⟨ha,hb⟩| ⟨ha,hb⟩
   ·exact⟨_,_,_,h3,hc,.inl ⟨res,h1,h2,rfl,rfl,rfl⟩⟩
   ·cases gc with
    |false=>exact⟨_,_,_,hb rfl,hc,.inr ⟨(fun h=>by cases h),fun _=>⟨rfl,rfl,rfl⟩⟩⟩
    |true=>
     obtain⟨L,ob0,ob1,res,h1,h2,h3,h5,h6,h7⟩:=ha rfl
     exact⟨_,_,_,h7,hc,.inr ⟨fun _=>⟨L,ob0,ob1,res,h1,h2,h3,h5,h6,rfl,rfl,rfl⟩,(fun h=>by cases h)⟩⟩
   ·cases gc with
    |false=>exact⟨_,_,_,hb rfl,hc,.frz ⟨(fun h=>by cases h),fun _=>⟨rfl,rfl,rfl⟩⟩⟩
    |true=>
     obtain⟨Fz,res,h1,h2,h3⟩:=ha rfl
     exact⟨_,_,_,h3,hc,.frz ⟨fun _=>⟨Fz,res,h1,h2,rfl,rfl,rfl⟩,(fun h=>by cases h)⟩⟩
   ·cases gc with
    |false=>exact⟨_,_,_,hb rfl,hc,.mov ⟨(fun h=>by cases h),fun _=>⟨rfl,rfl,rfl⟩⟩⟩
    |true=>
     obtain⟨L,ob0,ob1,res,h1,h2,h3,h4,h5⟩:=ha rfl
     exact⟨_,_,_,h5,hc,.mov ⟨fun _=>⟨L,ob0,ob1,res,h1,h2,h3,h4,rfl,rfl,rfl⟩,(fun h=>by cases h)⟩⟩
  ·exact⟨_,_,_,h.2,h.1,rfl,rfl,rfl⟩
 |clr a b c=>exact wr _ h fun _=>rfl
 |alloc z=>exact wr _ h fun _=>rfl
 |box z=>exact wr _ h fun _=>rfl
 |st a b c=>exact wr _ h fun _=>rfl
 |mkmap a=>exact wr _ h fun _=>rfl
 |mput a b c=>exact wr _ h fun _=>rfl
 |mputp a b c=>exact wr _ h fun _=>rfl
 |bslice a b c d=>exact wr _ h fun _=>rfl
 |mk a b c d e=>exact wr _ h fun _=>rfl
 |app a b c d=>exact wr _ h fun _=>rfl
 |cpy a b c=>exact wr _ h fun _=>rfl
 |s2b a=>exact wr _ h fun _=>rfl
 |aslc a b c=>exact wr _ h fun _=>rfl
 |cpys a b=>exact wr _ h fun _=>rfl
 |_=>exact rd _ h fun _=>rfl
def look(sl:aX):List Nat→aX
 | []=> []
 |d::r=>match eT sl d with
  |some s=>(d,s)::look sl r
  |none=>look sl r
theorem kZ {sl:aX} :∀ {l:List Nat} {d:Nat} {s:SV},(d,s)∈look sl l→d∈l∧eT sl d=some s
 | [],_,_,h=>by simp [look] at h
 |a::r,d,s,h=>by
  simp only [look] at h
  split at h
  ·rename_i q hq
   rcases List.mem_cons.1 h with h |h
   ·obtain⟨rfl,rfl⟩:=Prod.mk.inj h;exact⟨by simp,hq⟩
   ·exact⟨zD _ (kZ h).1,(kZ h).2⟩
  ·exact⟨zD _ (kZ h).1,(kZ h).2⟩
def gK(S:aC):List Nat→aC
 | []=> []
 |k::r=>match S.get k with
  |some o=>(k,o)::gK S r
  |none=>gK S r
theorem iB {S:aC} :∀ {l:List Nat} {k:Nat},(gK S l).get k=if k∈l then S.get k else none
 | [],k=>by simp [gK,aC.get]
 |a::r,k=>by
  simp only [gK]
  split
  ·rename_i o ho
   simp only [aC.get]
   by_cases h:k=a
   ·subst h;simp [ho]
   ·rw [if_neg h,iB];simp [h]
  ·rename_i ho
   rw [iB]
   by_cases h:k=a
   ·subst h;simp [ho]
   ·simp [h]
theorem aAL {S S':aC} :∀ {l:List Nat},(∀k∈l,S'.get k=S.get k)→gK S' l=gK S l
 | [],_=>rfl
 |a::r,h=>by
  simp only [gK]
  rw [h a (by simp),aAL fun d hd=>h d (zD _ hd)]
def uO(S S1:aC):List Nat→aC
 | []=>S
 |k::r=>match S1.get k with
  |some o=>(uO S S1 r).set k o
  |none=>(uO S S1 r).del k
theorem nS {S S1:aC} :∀ {l:List Nat} {k:Nat},(uO S S1 l).get k=if k∈l then S1.get k else S.get k
 | [],k=>by simp [uO]
 |a::r,k=>by
  simp only [uO]
  split
  ·rename_i o ho
   rw [aC.get_set,nS]
   by_cases h:k=a
   ·subst h;simp [ho]
   ·simp [h]
  ·rename_i ho
   rw [aC.get_del,nS]
   by_cases h:k=a
   ·subst h;simp [ho]
   ·simp [h]
theorem aS.congr {U:Nat→Prop} {σ:Sg} {S S':aC} {w:World} {n:Nat} (h:∀k,S'.get k=S.get k)(hR:aS U σ S w n):aS U σ S' w n:=by
 have hO:∀b,Own U σ S' b↔Own U σ S b:=fun b=>by unfold Own gB;simp only [h]
 have hO':∀b,gB σ S' b↔gB σ S b:=fun b=>by unfold gB;simp only [h]
 have hO2:Own U σ S'=Own U σ S:=funext fun b=>propext (hO b)
 exact⟨fun k o hk=>by rw [hO2];exact hR.obj k o (by rw [←h];exact hk),fun k k' o o' b es cap es' cap' h1 h2=>hR.inj k k' o o' b es cap es' cap' (by rw [←h];exact h1) (by rw [←h];exact h2),
  fun k hk=>by rw [h];exact hR.fresh k hk,fun b hb=>hR.disj b ((hO' b).1 hb),hR.ulim,by rw [hO2];exact hR.gl⟩
theorem aS.wider {U:Nat→Prop} {σ:Sg} {S:aC} {w:World} {n n':Nat} (h:n≤n')(hR:aS U σ S w n):aS U σ S w n':=
 ⟨hR.obj,hR.inj,fun k hk=>hR.fresh k (by omega),hR.disj,hR.ulim,hR.gl⟩
def Uf(U:Nat→Prop)(σ:Sg)(S:aC)(T:List Nat)(b:Nat):Prop:=U b∨∃k o es cap,k∉T∧S.get k=some o∧σ k=some (some b,es,cap)
section
variable {U:Nat→Prop} {σ:Sg} {S:aC} {w:World} {n:Nat} {T:List Nat}
theorem aKF {b:Nat} (h:Own (Uf U σ S T) σ (gK S T) b):Own U σ S b:=by
 rcases h with (hu | ⟨k,o,es,cap,-,h2,h3⟩)| ⟨k,o,es,cap,h2,h3⟩
 ·exact .inl hu
 ·exact .inr ⟨k,o,es,cap,h2,h3⟩
 ·rw [iB] at h2
  split at h2
  ·exact .inr ⟨k,o,es,cap,h2,h3⟩
  ·cases h2
theorem jV.less {O O':Nat→Prop} (hO:∀b,O' b→O b) {loc:Option (Option Nat×Nat×Nat)} {o:Obj} (h:jV O w σ loc o):jV O' w σ loc o:=by
 have g0:∀ {σ x v},VR O w σ x v→VR O' w σ x v:=fun h=>h.mono (cM.refl _ _) (fun b _ hb=>hO b hb) fun _ _=>rfl
 cases o with
 |row es xs=>
  obtain⟨hl,h⟩:=h
  refine⟨hl,?_⟩
  rcases loc with _ | ⟨_ |b,es',cap⟩
  ·exact h
  ·exact h
  ·obtain⟨rfl,e1,arr,ty,e2,e3,e4⟩:=h
   refine⟨rfl,e1,arr,ty,e2,e3,fun i x c y hx hy=>?_⟩
   obtain⟨v,q1,q2,q3⟩:=e4 i x c y hx hy
   exact⟨v,q1,q2,g0 q3⟩
 |box cs=>
  obtain⟨b,rfl,arr,ty,e2,e3,e4⟩:=h
  refine⟨b,rfl,arr,ty,e2,e3,fun c y hy=>?_⟩
  obtain⟨v,q1,q2,q3⟩:=e4 c y hy
  exact⟨v,q1,q2,g0 q3⟩
 |mp xs=>
  obtain⟨b,rfl,es,ck,e2,e3,e4⟩:=h
  refine⟨b,rfl,es,ck,e2,e3,fun i p hp=>?_⟩
  obtain⟨en,q1,q2,q3⟩:=e4 i p hp
  exact⟨en,q1,q2,g0 q3⟩
 |bb l=>exact h
theorem aS.part(hR:aS U σ S w n)(T:List Nat):aS (Uf U σ S T) σ (gK S T) w n:=by
 have hg:∀k o,(gK S T).get k=some o→k∈T∧S.get k=some o:=fun k o h=>by
  rw [iB] at h
  split at h
  ·rename_i hk;exact⟨hk,h⟩
  ·cases h
 refine⟨fun k o hk=>(hR.obj k o (hg k o hk).2).less fun b=>aKF,fun k k' o o' b es cap es' cap' h1 h2=>hR.inj k k' o o' b es cap es' cap' (hg k o h1).2 (hg k' o' h2).2,fun k hk=>⟨?_,(hR.fresh k hk).2⟩,fun b hb hu=>?_,fun b hu=>?_,hR.gl.less fun b=>aKF⟩
 ·rw [iB,(hR.fresh k hk).1];simp
 ·obtain⟨k,o,es,cap,h1,h2⟩:=hb
  rcases hu with hu | ⟨k',o',es',cap',h3,h4,h5⟩
  ·exact hR.disj b ⟨k,o,es,cap,(hg k o h1).2,h2⟩ hu
  ·obtain rfl:=hR.inj k k' o o' b es cap es' cap' (hg k o h1).2 h4 h2 h5
   exact h3 (hg k o h1).1
 ·rcases hu with hu | ⟨k',o',es',cap',h3,h4,h5⟩
  ·exact hR.ulim b hu
  ·exact hR.size ⟨k',o',es',cap',h4,h5⟩
theorem aS.whole(hR:aS U σ S w n) {σ':Sg} {S1 S2:aC} {w':World} {R:Nat→Prop} (hT:∀k∈T,R k)(hnew:∀k,R k→k∉T→S.get k=Option.none)(hin:∀k,R k→S2.get k=S1.get k)
 (hout:∀k,¬R k→S2.get k=S.get k∧σ' k=σ k∧S1.get k=Option.none) (g:bL σ (gK S T) w n σ' S1 w' n) (hR':aS (Uf U σ S T) σ' S1 w' n):
 bL σ S w n σ' S2 w' n∧aS U σ' S2 w' n∧∀b,Own U σ' S2 b→Own (Uf U σ S T) σ' S1 b:=by
 have own0:∀b,gB σ (gK S T) b→∃k o es cap,k∈T∧S.get k=some o∧σ k=some (some b,es,cap):=by
  rintro b ⟨k,o,es,cap,h1,h2⟩
  rw [iB] at h1
  split at h1
  ·rename_i hk;exact⟨k,o,es,cap,hk,h1,h2⟩
  ·cases h1
 have cases2:∀k o,S2.get k=some o→(S.get k=some o∧k∉T∧σ' k=σ k)∨S1.get k=some o:=by
  intro k o hk
  by_cases h:R k
  ·rw [hin k h] at hk;exact .inr hk
  ·obtain⟨h1,h2,-⟩:=hout k h
   rw [h1] at hk
   exact .inl ⟨hk,fun hm=>h (hT k hm),h2⟩
 have g2:bL σ S w n σ' S2 w' n:=by
  refine⟨g.keep.wider fun b hb=>by obtain⟨k,o,es,cap,-,h2,h3⟩:=own0 b hb;exact⟨k,o,es,cap,h2,h3⟩,fun b hb hO=>?_,g.sg,zJ _⟩
  obtain⟨k,o,es,cap,hk,hs⟩:=hO
  rcases cases2 k o hk with ⟨h1,-,h2⟩|h1
  ·exact⟨k,o,es,cap,h1,h2▸hs⟩
  ·obtain⟨k,o,es,cap,-,h2,h3⟩:=own0 b (g.own b hb ⟨k,o,es,cap,h1,hs⟩);exact⟨k,o,es,cap,h2,h3⟩
 have own2:∀b,Own U σ' S2 b→Own (Uf U σ S T) σ' S1 b:=by
  rintro b (hu | ⟨k,o,es,cap,hk,hs⟩)
  ·exact .inl (.inl hu)
  ·rcases cases2 k o hk with ⟨h1,h3,h2⟩|h1
   ·exact .inl (.inr ⟨k,o,es,cap,h3,h1,h2▸hs⟩)
   ·exact .inr ⟨k,o,es,cap,h1,hs⟩
 have apart:∀b k o es cap,k∉T→S.get k=some o→σ k=some (some b,es,cap)→¬gB σ' S1 b:=by
  intro b k o es cap hk h1 h2 hO
  have hb:=hR.size ⟨k,o,es,cap,h1,h2⟩
  obtain⟨k',o',es',cap',hk',h1',h2'⟩:=own0 b (g.own b hb hO)
  obtain rfl:=hR.inj k k' o o' b es cap es' cap' h1 h1' h2 h2'
  exact hk hk'
 refine⟨g2,hR.step g2 (fun k hk=>?_) (fun k k' o o' b es cap es' cap' hk hk' hs hs'=>?_) (fun k o hk=>?_),own2⟩
 ·refine⟨?_,(hR'.fresh k hk).2⟩
  by_cases h:R k
  ·rw [hin k h];exact(hR'.fresh k hk).1
  ·rw [(hout k h).1];exact(hR.fresh k hk).1
 ·rcases cases2 k o hk with ⟨h1,h3,h2⟩|h1 <;> rcases cases2 k' o' hk' with ⟨h1',h3',h2'⟩|h1'
  ·exact hR.inj k k' o o' b es cap es' cap' h1 h1' (h2▸hs) (h2'▸hs')
  ·exact absurd ⟨k',o',es',cap',h1',hs'⟩ (apart b k o es cap h3 h1 (h2▸hs))
  ·exact absurd ⟨k,o,es,cap,h1,hs⟩ (apart b k' o' es' cap' h3' h1' (h2'▸hs'))
  ·exact hR'.inj k k' o o' b es cap es' cap' h1 h1' hs hs'
 ·rcases cases2 k o hk with ⟨h1,h3,h2⟩|h1
  ·left
   refine⟨h1,fun b es cap hs=>g.keep.block b (hR.size ⟨k,o,es,cap,h1,hs⟩) fun hO=>?_⟩
   obtain⟨k',o',es',cap',hk',h1',h2'⟩:=own0 b hO
   obtain rfl:=hR.inj k k' o o' b es cap es' cap' h1 h1' hs h2'
   exact h3 hk'
  ·right
   exact(hR'.obj k o h1).less own2
end
end Go.Sk
namespace Go.Sk
open Go Go.RowKit
variable [fQ]
structure Rec where
 m:Nat
 rd:List Nat
 cs:List Nat
 d:Option Nat
 s:SV
 T:List Nat
 ids:List Nat
 S1:aC
def aWR:V→List Nat
 | .ptr k _ _=> [k]
 | .sl k _ _=> [k]
 | .slx k _ _=> [k]
 | .slk k _ _ _=> [k]
 | .mp k=> [k]
 |_=> []
def aN7:List V→List Nat
 | []=> []
 |v::r=>aWR v++aN7 r
def nH:V→List Nat
 | .agg cs=>aN7 cs
 | .fn _ cs=>aN7 cs
 |v=>aWR v
def aEU:aX→List Nat
 | []=> []
 | (_,s)::r=>nH s.v++aEU r
def bIR(i:I)(SL:aX):List Nat:=
 match i with
 | .mv _=> []
 | .faddr _ _=> []
 | .extr _ _=> []
 |_=>aEU SL
def aWS(S:aC):List Nat→List Nat
 | []=> []
 |k::r=>match S.get k with
  |some (.box cs)=>aN7 cs++aWS S r
  |_=>aWS S r
def qL(i:I)(SL:aX)(S:aC):List Nat:=
 match i with
 | .call _ _=>aEU SL++aWS S (aEU SL)
 | .vcall _ _=>aEU SL++aWS S (aEU SL)
 |i=>bIR i SL
def aT:A→List Nat
 | .t n=> [n]
 | .c _=> []
def aTs:List A→List Nat
 | []=> []
 |a::r=>aT a++aTs r
def aJX:I→List Nat
 | .mv x=>aT x | .pick c a b=>aT c++aT a++aT b | .un _ x=>aT x | .bin _ x y=>aT x++aT y | .conv _ x=>aT x | .nilck x=>aT x | .faddr _ x=>aT x
 | .fget _ _ _ x=>aT x | .ld _ _ x=>aT x | .st _ x y=>aT x++aT y | .iaddr _ x i=>aT x++aT i | .iarr _ _ x i=>aT x++aT i | .aidx _ x i=>aT x++aT i
 | .slc _ x lo hi=>aT x++(match lo with |some l=>aT l |none=> [])++(match hi with |some l=>aT l |none=> [])
 | .eqb _ x y=>aT x++aT y | .eqs _ _ x y=>aT x++aT y
 | .len x=>aT x | .mx x y=>aT x++aT y | .mn x y=>aT x++aT y | .extr _ x=>aT x
 | .build _ ps=>aTs (ps.map fun p=>p.2.2)
 | .alloc _=> [] | .box x=>aT x | .bslice _ _ _ ps=>aTs (ps.map fun p=>p.2)| .mk _ _ _ l c=>aT l++aT c | .app _ _ x y=>aT x++aT y | .cpy _ x y=>aT x++aT y
 | .mkmap _=> [] | .mget _ _ x i=>aT x++aT i | .mput x i y=>aT x++aT i++aT y | .mgetp _ _ x i=>aT x++aT i | .mputp x i y=>aT x++aT i++aT y
 | .call _ xs=>aTs xs
 | .vcall x xs=>aT x++aTs xs
 | .clr _ _ x=>aT x
 | .slen x=>aT x | .sidx x i=>aT x++aT i | .scat x y=>aT x++aT y | .sqs _ x y=>aT x++aT y | .b2s x=>aT x | .s2b x=>aT x | .cpys x y=>aT x++aT y
 | .aslc _ x hi=>aT x++(match hi with |some l=>aT l |none=> [])
 | .ssl x lo hi=>aT x++(match lo with |some l=>aT l |none=> [])++(match hi with |some l=>aT l |none=> [])
 | .slc3 _ x lo hi mx=>aT x++(match lo with |some l=>aT l |none=> [])++aT hi++aT mx
 | .isnil _ x=>aT x
 | .mkfn _ xs=>aTs xs
 | .bad=> []
def gsl:Option (Nat×Bool)→List Nat
 |none=> []
 |some (g,_)=> [g]
def chT:List (Nat×Bool)→List Nat
 | []=> []
 | (g,_)::r=>g::chT r
def chs:aX→List Nat
 | []=> []
 | (_,s)::r=>chT s.ch++chs r
def wrI(SL:aX)(T:List Nat)(m n1:Nat):I→List Nat
 | .st _ x _=>nH (bN SL [] x)
 | .cpy _ x _=>nH (bN SL [] x)
 | .clr _ _ x=>nH (bN SL [] x)
 | .mput x _ _=>nH (bN SL [] x)
 | .mputp x _ _=>nH (bN SL [] x)
 | .cpys x _=>nH (bN SL [] x)
 | .aslc _ x _=>nH (bN SL [] x)
 | .call f _=>match Nat.beq n1 m with
   |true=> []
   |false=>match gE f fQ.ro with
    |true=> []
    |false=>T
 |_=>match Nat.beq n1 m with
  |true=> []
  |false=>T
def aD3(m:Nat):aC→List Nat
 | []=> []
 | (k,_)::r=>match Nat.ble m k with
   |true=>k::aD3 m r
   |false=>aD3 m r
def vP(T:List Nat)(m:Nat):aC→Bool
 | []=>true
 | (k,_)::r=>(gE k T||(Nat.ble m k&&Nat.blt k (m+16)))&&vP T m r
def qS:Option Nat→List Nat→Bool
 |none,_=>true
 |some d,l=> !gE d l
def aFI(SO S1:aC)(W:List Nat):List Nat→Prop
 | []=>True
 |k::r=>match gE k W with
  |true=>aFI SO S1 W r
  |false=>S1.get k=SO.get k∧aFI SO S1 W r
def aAY(SO S1:aC)(W:List Nat)(K:Prop):List Nat→Prop
 | []=>K
 |k::r=>match gE k W with
  |true=>aAY SO S1 W K r
  |false=>S1.get k=SO.get k∧aAY SO S1 W K r
theorem pI {SO S1:aC} {W:List Nat} {K:Prop} :∀ {T:List Nat},aAY SO S1 W K T→aFI SO S1 W T∧K
 | [],h=>⟨trivial,h⟩
 |k::r,h=>by
  simp only [aAY,aFI] at h⊢
  split at h
  ·exact pI h
  ·exact⟨⟨h.1,(pI h.2).1⟩,(pI h.2).2⟩
def aBY(n:Nat):List Nat→Bool
 | []=>true
 |k::r=>Nat.blt k n&&aBY n r
def aEA:List Nat→List Nat→Bool
 | [],_=>true
 |k::r,l=>gE k l&&aEA r l
def aEM:List Nat→List Nat→Bool
 | [],_=>true
 |k::r,l=> !gE k l&&aEM r l
def aC1(m:Nat):List Nat→Bool
 | []=>true
 |k::r=>(Nat.blt k m||Nat.ble (m+16) k)&&aC1 m r
def aCF(P:Program):St→Nat→Option Nat→Option (Nat×Bool)→I→(Rec→St→Prop)→Prop
 | ⟨ssl,sso,snx⟩,m,d,g,i,K=>
 cL (gsl g++aJX i) fun rds=>oR (look ssl rds) fun SL=>qJ SL g fun ch gc=>cL (qL i SL sso) fun T=>cV (gK sso T) fun SO=>cL (gsl g++chs SL) fun G=>
  cY P SL SO m ch gc i fun v S1 n1=>kU v fun v=>cV S1 fun S1=>cL (wrI SL T m n1 i) fun W=>cL (W++aD3 m S1) fun ids=>
   (vP T m S1&&(qS d G&&(aBY (m+16) ids&&(aEA W T&&(aEA (chT ch) G&&(aC1 m T&&Nat.ble n1 (m+16)))))))=true∧aAY SO S1 W
   (aDI ssl d ⟨ch,gc,v⟩ fun sl=>cV (uO sso S1 ids) fun so=>K ⟨m,rds++G,chT ch,d,⟨ch,gc,v⟩,T,ids,S1⟩ ⟨sl,so,snx⟩) T
def lY(P:Program):List oD→List Nat→St→(List Rec→St→Prop)→Prop
 | [],[],st,K=>K [] st
 | ⟨d,g,i⟩::r,m::ms,st,K=>aCF P st m d g i fun rc st'=>lY P r ms st' fun rs st''=>K (rc::rs) st''
 |_,_,_,_=>False
def indep(r r':Rec):Bool:=
 qS r.d r'.rd&&(qS r'.d r.rd&&((match r.d,r'.d with |some a,some b=> !Nat.beq a b |_,_=>true)&&(aEM r.ids r'.T&&(aEM r.ids r'.ids&&(aEM r'.ids r.T&&aC1 r.m r'.ids)))))
def aBK(r:Rec)(i:Nat):List Rec→List (List Nat)→Bool
 |r'::rs,a::an=>(bif gE i a then qS r'.d r.cs else indep r r')&&aBK r i rs an
 |_,_=>true
def lX:List Rec→List (List Nat)→Nat→Bool
 |r::rs,_::an,i=>aBK r i rs an&&lX rs an (i+1)
 |_,_,_=>true
theorem aCP {d:Nat} {l:List Nat} (h:(!gE d l)=true):d∉l:=fun hm=>by rw [fJ.2 hm] at h;simp at h
theorem oY {d:Option Nat} {l:List Nat} (h:qS d l=true):∀x∈l,d≠some x:=by
 intro x hx hd;subst hd;exact aCP h hx
theorem sR {n:Nat} :∀ {l:List Nat},aBY n l=true→∀k∈l,k<n
 | [],_,k,h=>by simp at h
 |a::r,h,k,hk=>by
  simp only [aBY,zF] at h
  rcases List.mem_cons.1 hk with rfl |hk
  ·exact zC h.1
  ·exact sR h.2 k hk
theorem kO:∀ {l l':List Nat},aEA l l'=true→∀k∈l,k∈l'
 | [],_,_,k,h=>by simp at h
 |a::r,l',h,k,hk=>by
  simp only [aEA,zF] at h
  rcases List.mem_cons.1 hk with rfl |hk
  ·exact fJ.1 h.1
  ·exact kO h.2 k hk
theorem oO:∀ {l l':List Nat},aEM l l'=true→∀k∈l,k∉l'
 | [],_,_,k,h=>by simp at h
 |a::r,l',h,k,hk=>by
  simp only [aEM,zF] at h
  rcases List.mem_cons.1 hk with rfl |hk
  ·exact aCP h.1
  ·exact oO h.2 k hk
theorem sS {m:Nat} :∀ {l:List Nat},aC1 m l=true→∀k∈l,¬(m≤k∧k<m+16)
 | [],_,k,h=>by simp at h
 |a::r,h,k,hk=>by
  simp only [aC1,zF,zN] at h
  rcases List.mem_cons.1 hk with rfl |hk
  ·rcases h.1 with h |h
   ·have :=zC h;omega
   ·have :=zC h;omega
  ·exact sS h.2 k hk
theorem mF {T:List Nat} {m:Nat} :∀ {S:aC},vP T m S=true→∀k o,S.get k=some o→k∈T∨(m≤k∧k<m+16)
 | [],_,k,o,h=>by simp [aC.get] at h
 | (j,p)::r,h,k,o,hk=>by
   simp only [vP,zF,zN] at h
   simp only [aC.get] at hk
   split at hk
   ·rename_i hj;subst hj
    rcases h.1 with h | ⟨h1,h2⟩
    ·exact .inl (fJ.1 h)
    ·exact .inr ⟨zC h1,zC h2⟩
   ·exact mF h.2 k o hk
theorem nP {m:Nat} :∀ {S:aC} {k:Nat},k∈aD3 m S↔m≤k∧∃o,S.get k=some o
 | [],k=>by simp [aD3,aC.get]
 | (j,p)::r,k=>by
   simp only [aD3,aC.get]
   split
   ·rename_i hb
    have :=zC hb
    rw [List.mem_cons,nP]
    by_cases h:k=j
    ·subst h;simp [this]
    ·simp [h]
   ·rename_i hb
    rw [nP]
    by_cases h:k=j
    ·subst h
     have :¬m≤k:=fun hle=>by rw [Nat.ble_eq_true_of_le hle] at hb;cases hb
     simp [this]
    ·simp [h]
theorem tH {SO S1:aC} {W:List Nat} :∀ {T:List Nat},aFI SO S1 W T→∀k∈T,k∉W→S1.get k=SO.get k
 | [],_,k,h,_=>by simp at h
 |a::r,h,k,hk,hw=>by
  simp only [aFI] at h
  split at h
  ·rename_i hb
   rcases List.mem_cons.1 hk with rfl |hk
   ·exact absurd (fJ.1 hb) hw
   ·exact tH h k hk hw
  ·rcases List.mem_cons.1 hk with rfl |hk
   ·exact h.1
   ·exact tH h.2 k hk hw
theorem uG {x:Nat×Bool} :∀ {l:List (Nat×Bool)},x∈l→x.1∈chT l
 | (g,b)::r,h=>by
   rcases List.mem_cons.1 h with rfl |h
   ·simp [chT]
   ·exact zD _ (uG h)
theorem aNG {p:Nat×SV} :∀ {l:aX},p∈l→∀x∈p.2.ch,x.1∈chs l
 | (d,s)::r,h,x,hx=>by
   simp only [chs,List.mem_append]
   rcases List.mem_cons.1 h with rfl |h
   ·exact .inl (uG hx)
   ·exact .inr (aNG h x hx)
structure aKE [vF](U:Nat→Prop)(N:Nat)(σ:Sg)(gs:Nat→Option SV)(S:aC)(n:Nat)(act:Act)(w:World):Prop where
 rel:aS U σ S w n
 sz:act.tmps.size=N
 df:act.defers=vF.ds
 sl:∀d s,gs d=some s→SVR (Own U σ S) w σ act.tmps s (act.tmps.getD d undef)
theorem aS6 {l:aX} {d:Nat} {s:SV} :∀t,eT (aDO l d s) t=if t=d then some s else eT l t:=by
 have hdel:∀(l:aX) (t:Nat),t≠d→eT (aE0 l d) t=eT l t:=by
  intro l t ht
  induction l with
  |nil=>rfl
  |cons p r ih=>
   obtain⟨j,q⟩:=p
   simp only [aE0,eT]
   split
   ·rename_i h;subst h;rw [if_neg ht];exact ih
   ·simp only [eT,ih]
 induction l with
 |nil=>intro t;simp only [aDO,eT]
 |cons p r ih=>
  obtain⟨j,q⟩:=p
  intro t
  simp only [aDO]
  split
  ·rename_i h;subst h
   simp only [eT]
   by_cases ht:t=d
   ·simp [ht]
   ·rw [if_neg ht,if_neg ht,if_neg ht];exact hdel r t ht
  ·rename_i h
   simp only [eT,ih]
   by_cases ht:t=j
   ·subst ht;rw [if_pos rfl,if_pos rfl,if_neg (Ne.symm h)]
   ·rw [if_neg ht,if_neg ht]
theorem aIG {l:aX} {d:Option Nat} {s:SV} (t:Nat):eT (aA1 l d s) t=if d=some t then some s else eT l t:=by
 cases d with
 |none=>simp [aA1]
 |some d=>
  simp only [aA1,aS6,Option.some.injEq]
  by_cases h:t=d
  ·rw [if_pos h,if_pos h.symm]
  ·rw [if_neg h,if_neg (Ne.symm h)]
def Loc [vF](P:Program)(N:Nat)(n:Nat)(ops:Array Oper)(o:Oper)(r:Rec)(SL:aX)(SO:aC):Prop:=
 ∀(U:Nat→Prop) (σ:Sg) (gs:Nat→Option SV) (S:aC) (act:Act) (w:World) (next:Act→World→Prop) (Q:Exit→Act→World→Prop),aKE U N σ gs S n act w→(∀d s,(d,s)∈SL→gs d=some s)→gK S r.T=SO→
  (∀i,i<16→S.get (r.m+i)=none∧σ (r.m+i)=none)→(∀t s,gs t=some s→∀x∈s.ch,r.d≠some x.1)→
  (∀σ' cv w',aKE U N σ' (fun t=>if r.d=some t then some r.s else gs t) (uO S r.S1 r.ids) n (act.put r.d cv) w'→bL σ S w n σ' (uO S r.S1 r.ids) w' n→(∀k,¬(r.m≤k∧k<r.m+16)→σ' k=σ k)→next (act.put r.d cv) w')→
  if Region.wanted o (yielded ops act.tmps) then o.wp P act w next Q else next (act.put o.dst undef) w
structure aR6(r:Rec)(m0:Nat):Prop where
 m:r.m=m0
 ids:∀k∈r.ids,k<m0+16
 ids':∀k∈r.ids,k∈r.T∨(m0≤k∧k<m0+16)
 cs:∀x∈r.s.ch,x.1∈r.cs∧x.1∈r.rd
section
variable {P:Program} {N n:Nat}
theorem aPB [vF] {st:St} {m:Nat} {d:Option Nat} {g:Option (Nat×Bool)} {i:I} {K:Rec→St→Prop} (h:aCF P st m d g i K) {ops:Array Oper} {o:Oper} (hi:aY3 P o.op=some i)(hg:aQ8 ops N o.guard=some g)(hd:aUH N o.dst=some d)(hn:m+16≤n):
 ∃r,K r ⟨aA1 st.sl r.d r.s,uO st.so r.S1 r.ids,st.nx⟩∧r.d=d∧aR6 r m∧∃SL,(∀d s,(d,s)∈SL→d∈r.rd∧eT st.sl d=some s)∧Loc P N n ops o r SL (gK st.so r.T):=by
 obtain⟨ssl,sso,snx⟩:=st
 simp only [aCF,eJ,kT,nD] at h
 simp only
 obtain⟨SL,hSL⟩:∃SL,SL=look ssl (gsl g++aJX i):=⟨_,rfl⟩
 rw [←hSL] at h
 split at h
 ·exact h.elim
 ·rename_i ch gc hgu
  obtain⟨SO,hSO⟩:∃SO,SO=gK sso (qL i SL sso):=⟨_,rfl⟩
  simp only [dV] at h
  rw [←hSO] at h
  obtain⟨v,S1,n1,h1,h2⟩:=aIK (st:=⟨SL,SO,m⟩) h
  simp only [gD,dV,eJ,qX,zF] at h1
  obtain⟨⟨k1,k2,k3,k4,k5,k6,k7⟩,hsk⟩:=h1
  obtain⟨hsame,hK⟩:=pI hsk
  have hn1:=zC k7
  refine⟨_,hK,rfl,⟨rfl,sR k3,fun k hk=>?_,fun x hx=>⟨uG hx,zP _ (kO k5 _ (uG hx))⟩⟩,SL,fun d s hm=>?_,?_⟩
  ·rcases List.mem_append.1 hk with hk |hk
   ·exact .inl (kO k4 k hk)
   ·obtain⟨hk1,o,ho⟩:=nP.1 hk
    exact mF k1 k o ho
  ·subst hSL
   exact⟨List.mem_append_left _ (kZ hm).1,(kZ hm).2⟩
  ·
   rw [←hSO]
   intro U σ gs S act w next Q hrel hsl hSO' hfree hch hnext
   have hpart:=hrel.rel.part (qL i SL sso)
   simp only at hSO' hfree hch hnext
   rw [hSO'] at hpart
   have hrelS:cP (Uf U σ S (qL i SL sso)) N σ ⟨SL,SO,n⟩ act w:=by
    refine⟨hpart,hrel.sz,hrel.df,fun t s hm=>?_⟩
    have :=hrel.sl t s (hsl t s hm)
    have less:∀ {x v},VR (Own U σ S) w σ x v→VR (Own (Uf U σ S (qL i SL sso)) σ SO) w σ x v:=fun h=>h.mono (cM.refl _ _) (fun b _ hb=>aKF (T:=qL i SL sso) (by rw [hSO'];exact hb)) fun _ _=>rfl
    unfold SVR at this⊢
    split
    ·rename_i hc;rw [hc] at this;exact less this
    ·rename_i gg r hc;rw [hc] at this
     exact⟨this.1,fun hh=>⟨(this.2.1 hh).1,less (this.2.1 hh).2⟩,this.2.2⟩
   have hsg:∀x∈ch,x.1∈gsl g++chs SL:=fun x hx=>kO k5 _ (uG hx)
   refine aIM (P:=P) hrelS (m:=m) (show m≤n by omega) (fun i hi=>⟨?_,(hfree i hi).2⟩) hi hg hd hgu (G:=gsl g++chs SL) (fun d s hm x hx=>zP _ (aNG hm x hx)) (fun d' hd' hm=>oY k2 d' hm hd') hsg h2 ?_
   ·rw [←hSO',iB,(hfree i hi).1];simp
   ·rintro σ' v' S1' n1' cv w' ⟨rfl,rfl,rfl⟩ hge hr' gr-hσ
    have hmx:max n n1'=n:=by omega
    simp only at hr' gr
    rw [hmx] at hr' gr
    have hR:∀k,k∈(wrI SL (qL i SL sso) m n1' i++aD3 m S1')→k∈qL i SL sso∨(m≤k∧k<m+16):=fun k hk=>by
     rcases List.mem_append.1 hk with hk |hk
     ·exact .inl (kO k4 k hk)
     ·obtain⟨hk1,o,ho⟩:=nP.1 hk
      exact mF k1 k o ho
    have hw:=hrel.rel.whole (T:=qL i SL sso) (σ':=σ') (S1:=S1') (S2:=uO S S1' (wrI SL (qL i SL sso) m n1' i++aD3 m S1')) (w':=w') (R:=fun k=>k∈qL i SL sso∨(m≤k∧k<m+16)) (fun k hk=>.inl hk)
     (fun k hk hn=>by
      rcases hk with hk |hk
      ·exact absurd hk hn
      ·have :=(hfree (k-m) (by omega)).1;rwa [show m+(k-m)=k by omega] at this)
     (fun k hk=>by
      rw [nS]
      split
      ·rfl
      ·rename_i hnk
       simp only [List.mem_append,not_or] at hnk
       by_cases hT:k∈qL i SL sso
       ·rw [tH hsame k hT hnk.1,←hSO',iB,if_pos hT]
       ·rcases hk with hk |hk
        ·exact absurd hk hT
        ·have h0:=(hfree (k-m) (by omega)).1
         rw [show m+(k-m)=k by omega] at h0
         rw [h0]
         cases hs1:S1'.get k with
         |none=>rfl
         |some o=>exact absurd (nP.2 ⟨hk.1,o,hs1⟩) hnk.2)
     (fun k hk=>by
      refine⟨by rw [nS,if_neg fun hm=>hk (hR k hm)],?_,?_⟩
      ·simp only [not_or] at hk
       exact hσ k hk.2
      ·cases hs1:S1'.get k with
       |none=>rfl
       |some o=>exact absurd (mF k1 k o hs1) hk)
     (by rw [hSO'];exact gr) hr'.rel
    obtain⟨g2,r2,o2⟩:=hw
    refine hnext σ' cv w' ⟨r2,hr'.sz,hr'.df,fun t s ht=>?_⟩ g2 hσ
    have hdN:∀d',d=some d'→d'<N:=fun d' hd'=>by
     unfold aUH at hd
     split at hd
     ·obtain rfl:=Option.some.inj hd;cases hd'
     ·split at hd
      ·rename_i hlt;obtain rfl:=Option.some.inj hd;obtain rfl:=Option.some.inj hd';exact hlt
      ·cases hd
    split at ht
    ·rename_i htd
     obtain rfl:=Option.some.inj ht
     have hm:(t,(⟨ch,gc,v'⟩:SV))∈aA1 SL d ⟨ch,gc,v'⟩:=by
      rw [htd]
      exact iP (by rw [aIG,if_pos rfl])
     have :=hr'.sl t _ hm
     have more:∀ {x v},VR (Own (Uf U σ S (qL i SL sso)) σ' S1') w' σ' x v→VR (Own U σ' (uO S S1' (wrI SL (qL i SL sso) m n1' i++aD3 m S1'))) w' σ' x v:=fun h=>h.mono (cM.refl _ _) (fun b _ hb=>o2 b hb) fun _ _=>rfl
     unfold SVR at this⊢
     split
     ·rename_i hc;rw [hc] at this;exact more this
     ·rename_i gg r hc;rw [hc] at this
      exact⟨this.1,fun hh=>⟨(this.2.1 hh).1,more (this.2.1 hh).2⟩,this.2.2⟩
    ·rename_i htd
     have hold:=hrel.sl t s ht
     have hval:(act.put d cv).tmps.getD t undef=act.tmps.getD t undef:=by
      cases d with
      |none=>rfl
      |some d=>rw [qY (by rw [hrel.sz];exact hdN d rfl),if_neg (fun e=>htd (by rw [e]))]
     have hkeep:∀x∈s.ch,(holds (act.put d cv).tmps x↔holds act.tmps x):=fun x hx=>by
      have :=hch t s ht x hx
      cases d with
      |none=>exact Iff.rfl
      |some d=>
       unfold holds
       rw [qY (by rw [hrel.sz];exact hdN d rfl),if_neg (fun e=>this (by rw [e]))]
     rw [hval]
     unfold SVR at hold⊢
     split
     ·rename_i hc;rw [hc] at hold;exact hold.grow g2
     ·rename_i gg r hc
      rw [hc] at hold hkeep
      exact⟨fun hh=>hold.1 ((hkeep gg (by simp)).1 hh),fun hh=>⟨fun x hx=>(hkeep x hx).2 ((hold.2.1 hh).1 x hx),(hold.2.1 hh).2.grow g2⟩,hold.2.2⟩
end
end Go.Sk
