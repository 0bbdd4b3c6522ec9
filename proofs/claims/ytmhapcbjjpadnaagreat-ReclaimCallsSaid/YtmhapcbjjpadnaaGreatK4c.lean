/- Caches. -/
import Derived.Test.YtmhapcbjjpadnaaGreatK3c
import Derived.Deep.LoopGhost
import Derived.Orders
set_option linter.all false
open Array renaming getD_eq_getD_getElem?→zK,getElem?_map→zS
open Bool renaming and_eq_true→zF,or_eq_true→zN
open List renaming mem_cons_of_mem→zD,getElem?_cons_zero→zE,mem_of_getElem?→zG,getElem?_eq_getElem→zL,getElem?_eq_none→zO,mem_append_right→zP,mem_singleton→zR,getElem?_map→zT
open Nat renaming le_of_ble_eq_true→zC,ne_of_beq_eq_false→zH,eq_of_beq_eq_true→zI,le_refl→zJ,sub_zero→zM,zero_le→zQ
open Option renaming map_eq_some_iff→zA
namespace Go.Sk
open Go Go.RowKit
variable [gL]
class qE where
 ds:List Deferred
structure SV where
 ch:List (Nat×Bool)
 gc:Bool
 v:V
abbrev bA:=List (Nat×SV)
def eI:bA->Nat->Option SV
 | [],_=>none
 | (j,s)::r,d=>if d=j then some s else eI r d
def aIS:bA->Nat->bA
 | [],_=> []
 | (j,s)::r,d=>if d=j then aIS r d else(j,s)::aIS r d
def aFD:bA->Nat->SV->bA
 | [],d,s=> [(d,s)]
 | (j,q)::r,d,s=>if d=j then(d,s)::aIS r d else(j,q)::aFD r d s
def tE(l:bA):Option Nat->SV->bA
 |some d,s=>aFD l d s
 |none,_=>l
theorem gZ:∀ {l:bA} {d:Nat} {s:SV},eI l d=some s->(d,s)∈l
 | [],_,_,h=>by simp [eI] at h
 | (j,q)::r,d,s,h=>by
   simp only [eI] at h;split at h
   ·rename_i e;obtain rfl:=zsi h;subst e;simp
   ·exact zD _ (gZ h)
theorem aHJ:∀ {l:bA} {d:Nat} {p:Nat×SV},p∈aIS l d->p.1≠d/\p∈l
 | [],_,_,h=>by simp [aIS] at h
 | (j,q)::r,d,p,h=>by
   simp only [aIS] at h;split at h
   ·have :=aHJ h;exact⟨this.1,zD _ this.2⟩
   ·rename_i e;rcases List.mem_cons.1 h with rfl |h
    ·exact⟨Ne.symm e,by simp⟩
    ·have :=aHJ h;exact⟨this.1,zD _ this.2⟩
theorem qW:∀ {l:bA} {d:Nat} {s:SV} {p:Nat×SV},p∈aFD l d s->p=(d,s)\/(p.1≠d/\p∈l)
 | [],d,s,p,h=>by simp only [aFD,zR] at h;exact .inl h
 | (j,q)::r,d,s,p,h=>by
   simp only [aFD] at h;split at h
   ·rcases List.mem_cons.1 h with rfl |h
    ·exact .inl rfl
    ·have :=aHJ h;exact .inr ⟨this.1,zD _ this.2⟩
   ·rename_i e;rcases List.mem_cons.1 h with rfl |h
    ·exact .inr ⟨Ne.symm e,by simp⟩
    ·rcases qW h with h |h
     ·exact .inl h
     ·exact .inr ⟨h.1,zD _ h.2⟩
structure St where
 sl:bA
 so:aD
 nx:Nat
def aYU(g:Nat×Bool):List (Nat×Bool)->Bool
 | []=>false
 |h::t=>(g.1==h.1&&g.2==h.2)||aYU g t
theorem aO8 {g:Nat×Bool} :∀ {l:List (Nat×Bool)},aYU g l=true->g∈l
 | [],h=>by simp [aYU] at h
 |a::t,h=>by
  simp only [aYU,zN,zF,zbe] at h;rcases h with ⟨e,h2⟩|h
  ·have :g=a:=Prod.ext e h2;simp [this]
  ·exact zD _ (aO8 h)
def bR(sl:bA)(ch:List (Nat×Bool)):A->V
 | .c v=>v
 | .t n=>match eI sl n with
   |some s=>match s.ch with
    | []=>s.v
    |g::_=>if aYU g ch then s.v else .any
   |none=>.any
def guardOf(sl:bA):Option (Nat×Bool)->Option (List (Nat×Bool)×Bool)
 |none=>some ([],true)
 |some (gd,b)=>match eI sl gd with
  |some s=>match s.v with
   | .bool x=>some ((gd,b)::s.ch,match s.ch with
     | []=>(if b then x else !x)
     |_::_=>s.gc&&(if b then x else !x))
   | .any=>match s.ch,s.gc with
     |_::_,false=>some ((gd,b)::s.ch,false)
     |_,_=>none
   |_=>none
  |none=>none
structure iZ where
 d:Option Nat
 g:Option (Nat×Bool)
 i:I
def sK(P:Program)(f:FuncId)(args:List V)(S:aD)(gc:Bool)(K:V->Prop):Prop:= ∃res,(gc=true->(∀v∈args,pH S v)/\aM P f [] (args.map (pur S)) res [])/\(args.all aJT=true\/aDU res=true)/\K res
inductive nC(A B C D:Prop):Prop where
 |inl (h:A)
 |inr (h:B)
 |frz (h:C)
 |mov (h:D)
def jL(P:Program)(f:FuncId):Prop:=∃fn,P.funcs[f]? =some fn∧fn.body.isSome=true∧(fn.name== "runtime.NumGoroutine")=false
def mV(ssl:bA)(sso:aD)(snx:Nat)(ch:List (Nat×Bool))(gc:Bool)(i:I)(K:V->aD->Nat->Prop):Prop:=
 match ch with
 | []=>pO sso snx i (bR ssl []) K
 |g::r=>(gc=true->pO sso snx i (bR ssl (g::r)) K)/\(gc=false->K .any sso snx)
def dO(P:Program)(ssl:bA)(sso:aD)(snx:Nat)(ch:List (Nat×Bool))(gc:Bool)(i:I)(K:V->aD->Nat->Prop):Prop:=
 match i with
 | .pick (.t tc) a b=>match bR ssl ch (.t tc) with
   | .bool x=>match bR ssl ((tc,true)::ch) a,bR ssl ((tc,false)::ch) b with
     | .bool p,.bool q=>K (.bool (bif x then p else q)) sso snx
     |u,v=>match x with
      |true=>K u sso snx
      |false=>K v sso snx
   |_=>gc=false/\K .any sso snx
 | .build z ps=>match aE6 z (ps.map λp=>(p.1,p.2.1,bR ssl ch p.2.2)) with
   |some cs=>z.all pY=true/\K (.agg cs) sso snx
   |none=>False
 | .call f xs=>nC (sK P f (xs.map (bR ssl ch)) sso gc λv=>K v sso snx) ((gc=true->qD P f (xs.map (bR ssl ch)) sso snx K)/\(gc=false->K .any sso snx)) ((gc=true->rV P f (xs.map (bR ssl ch)) sso snx K)/\(gc=false->K .any sso snx)) ((gc=true->sE P f (xs.map (bR ssl ch)) sso snx K)/\(gc=false->K .any sso snx))
 | .vcall x xs=>match bR ssl ch x with
   | .fn f caps=>jL P f/\nC (sK P f (xs.map (bR ssl ch)++caps) sso gc λv=>K v sso snx) ((gc=true->qD P f (xs.map (bR ssl ch)++caps) sso snx K)/\(gc=false->K .any sso snx)) ((gc=true->rV P f (xs.map (bR ssl ch)++caps) sso snx K)/\(gc=false->K .any sso snx)) ((gc=true->sE P f (xs.map (bR ssl ch)++caps) sso snx K)/\(gc=false->K .any sso snx))
   |_=>gc=false/\K .any sso snx
 | .clr es z x=>mV ssl sso snx ch gc (.clr es z x) K
 | .alloc z=>mV ssl sso snx ch gc (.alloc z) K
 | .box x=>mV ssl sso snx ch gc (.box x) K
 | .st m x y=>mV ssl sso snx ch gc (.st m x y) K
 | .mkmap ks=>mV ssl sso snx ch gc (.mkmap ks) K
 | .s2b x=>mV ssl sso snx ch gc (.s2b x) K
 | .aslc n x h=>mV ssl sso snx ch gc (.aslc n x h) K
 | .cpys x y=>mV ssl sso snx ch gc (.cpys x y) K
 | .mput x i y=>mV ssl sso snx ch gc (.mput x i y) K
 | .mputp x i y=>mV ssl sso snx ch gc (.mputp x i y) K
 | .bslice es z m ps=>mV ssl sso snx ch gc (.bslice es z m ps) K
 | .mk es by_ z l c=>mV ssl sso snx ch gc (.mk es by_ z l c) K
 | .app es by_ x y=>mV ssl sso snx ch gc (.app es by_ x y) K
 | .cpy es x y=>mV ssl sso snx ch gc (.cpy es x y) K
 |i=>gQ sso i (bR ssl ch) gc λv=>K v sso snx
def oC(P:Program)(st:St)(ch:List (Nat×Bool))(gc:Bool)(i:I)(K:V->aD->Nat->Prop):Prop:=dO P st.sl st.so st.nx ch gc i K
def sH(P:Program):List iZ->St->(St->Prop)->Prop
 | [],st,K=>K st
 | ⟨d,g,i⟩::r,st,K=>match guardOf st.sl g with
   |some (ch,gc)=>oC P st ch gc i λv S n=>sH P r ⟨tE st.sl d ⟨ch,gc,v⟩,S,n⟩ K
   |none=>False
def aM5(P:Program):Op->Option I
 | .call { callee:=.value (.func f),args,.. } =>match P.funcs[f]? with
   |some fn=>if fn.body.isSome=true∧(fn.name== "runtime.NumGoroutine")=false then(args.toList.mapM bK).map (.call f) else none
   |none=>none
 | .call { callee:=.value (.tmp t),args,.. } =>(args.toList.mapM bK).map (.vcall (.t t))
 |_=>none
def aI6(P:Program)(o:Op):Option I:=
 match aM5 P o with
 |some i=>some i
 |none=>some .bad
def aWL(P:Program)(o:Op):Option I:=
 match aI7 P o with
 |some i=>some i
 |none=>match bKZ P o with
  |some (z,ps)=>some (.build z ps)
  |none=>match bB1 P o with
   |some i=>some i
   |none=>aI6 P o
def aWK(ops:Array Oper)(N:Nat):Option (Nat×Bool)->Option (Option (Nat×Bool))
 |none=>some none
 |some (j,b)=>match(ops[j]?).bind (·.dst) with
  |some d=>if d<N then some (some (d,b)) else none
  |none=>none
def aWJ(N:Nat):Option Nat->Option (Option Nat)
 |none=>some none
 |some d=>if d<N then some (some d) else none
def cW(P:Program)(ops:Array Oper)(N:Nat):List Oper->Option (List iZ)
 | []=>some []
 |o::r=>match aWL P o.op,aWK ops N o.guard,aWJ N o.dst,cW P ops N r with
  |some i,some g,some d,some l=>some (⟨d,g,i⟩::l)
  |_,_,_,_=>none
def kQ:List Nat->List iZ->Bool
 |_,[]=>true
 |G,i::r=>(match i.d with |some d=> !G.contains d |none=>true)&&(match i.g with |some (gd,_)=>(i.d != some gd)&&kQ (gd::G) r |none=>kQ G r)
def holds(tmps:Array Value)(g:Nat×Bool):Prop:=tmps.getD g.1 undef=.bool g.2
def SVR(O:Nat->Prop)(w:World)(σ:Sg)(tmps:Array Value)(s:SV)(cv:Value):Prop:=
 match s.ch with
 | []=>VR O w σ s.v cv
 |g::r=>(holds tmps g->s.gc=true)/\(s.gc=true->(∀h∈g::r,holds tmps h)/\VR O w σ s.v cv)/\(s.gc=false->cv=undef)
structure bJ [qE](U:Nat->Prop)(N:Nat)(σ:Sg)(st:St)(act:Act)(w:World):Prop where
 rel:aV U σ st.so w st.nx
 sz:act.tmps.size=N
 df:act.defers=qE.ds
 sl:∀d s,(d,s)∈st.sl->SVR (Own U σ st.so) w σ act.tmps s (act.tmps.getD d undef)
def GIn(sl:bA)(G:List Nat):Prop:=∀d s,(d,s)∈sl->∀g∈s.ch,g.1∈G
section
variable {P:Program} {U:Nat->Prop} {N:Nat} {σ:Sg} {st:St} {act:Act} {w:World}
theorem iC [qE](h:bJ U N σ st act w) {ch:List (Nat×Bool)} (m:∀g∈ch,holds act.tmps g) {x:Operand} {a:A} (e:bK x=some a):VR (Own U σ st.so) w σ (bR st.sl ch a) (act.eval x):=by
 cases x with
 |tmp t=>
  simp only [bK,zse] at e;subst e;simp only [bR,Act.eval];split
  ·rename_i s B;have :=h.sl t s (gZ B);unfold SVR at this;split
   ·rename_i j;rw [j] at this;exact this
   ·rename_i g r j;rw [j] at this;split
    ·rename_i hg;exact(this.2.1 (this.1 (m g (aO8 hg)))).2
    ·exact .any _
  ·exact .any _
 |const v=> simp only [bK,zA] at e;obtain⟨y,C,rfl⟩:=e;exact aRY C _ _ _
 |func f=> simp only [bK,zse] at e;subst e;exact .fn rfl (by simp)
 |global g=> simp only [bK,zA] at e;obtain⟨z,hg,rfl⟩:=e;exact(h.rel.gl g z hg).lift σ
theorem aVA {op:BinOp} {k:IntKind} {a b:Int} {e:Bool} {K:V->Prop} (h:aF6 op k a b e K):∃v,K v:=by
 cases op <;> simp only [aF6] at h <;> first |exact⟨_,h⟩|exact⟨_,h.2⟩
theorem bAQ {S:aD} {i:I} {e:A->V} {f:Bool} {K:V->Prop} (h:gQ S i e f K):∃v,K v:=by
 unfold gQ at h
 repeat' (first |split at h)
 all_goals first
  |exact h.elim
  |exact aVA h.2
  | (obtain⟨r,j,-⟩:=tX h;exact⟨_,j⟩)
  |exact⟨_,h⟩
  |exact⟨_,h.2⟩
  |exact⟨_,h.2.2⟩
theorem mR {a:Act} {d t:Nat} {v:Value} (e:d<a.tmps.size):(a.put (some d) v).tmps.getD t undef=if t=d then v else a.tmps.getD t undef:=by
 simp only [Act.put,zK]
 by_cases h:t=d
 ·subst h;rw [if_pos rfl,Array.getElem?_setIfInBounds_self_of_lt e];rfl
 ·rw [if_neg h,Array.getElem?_setIfInBounds_ne (Ne.symm h)]
theorem bJ.put [qE](h:bJ U N σ st act w) {G:List Nat} (hG:GIn st.sl G) {σ':Sg} {S':aD} {w':World} {n':Nat} (g:bP σ st.so w st.nx σ' S' w' n')(hR':aV U σ' S' w' n')
 {d:Option Nat} (hd:∀d',d=some d'->d'<N/\d'∉G) {s:SV} {cv:Value} (hs:∀tmps',(∀g,g.1∈G->(holds tmps' g↔holds act.tmps g))->SVR (Own U σ' S') w' σ' tmps' s cv):
 bJ U N σ' ⟨tE st.sl d s,S',n'⟩ (act.put d cv) w' where
 rel:=hR'
 sz:=by cases d <;> simp [Act.put,h.sz]
 df:=by cases d <;> simp [Act.put,h.df]
 sl:=λt q hq=>by
  have hkeep:∀g:Nat×Bool,g.1∈G->(holds (act.put d cv).tmps g↔holds act.tmps g):=λg hg=>by
   cases d with
   |none=>exact Iff.rfl
   |some d=> obtain⟨h1,h2⟩:=hd d rfl;unfold holds;rw [mR (by rw [h.sz];exact h1),if_neg (λ(e:g.1=d)=>h2 (e▸hg))]
  have old:(t,q)∈st.sl->(∀d',d=some d'->t≠d')->SVR (Own U σ' S') w' σ' (act.put d cv).tmps q ((act.put d cv).tmps.getD t undef):=λhm hne=>by
   have hold:=h.sl t q hm
   have hval:(act.put d cv).tmps.getD t undef=act.tmps.getD t undef:=by
    cases d with
    |none=>rfl
    |some d=>rw [mR (by rw [h.sz];exact(hd d rfl).1),if_neg (hne d rfl)]
   rw [hval];unfold SVR at hold⊢;have hgq:=hG t q hm;split
   ·rename_i hc;rw [hc] at hold;exact hold.grow g
   ·rename_i gg r hc;rw [hc] at hold hgq;refine⟨λhh=>hold.1 ((hkeep gg (hgq gg (by simp))).1 hh),λhh=>⟨λx hx=>(hkeep x (hgq x hx)).2 ((hold.2.1 hh).1 x hx),(hold.2.1 hh).2.grow g⟩,hold.2.2⟩
  cases d with
  |none=>exact old hq λd' hd'=>by cases hd'
  |some d=>
   rcases qW hq with hq | ⟨hne,hm⟩
   ·obtain⟨rfl,rfl⟩:=Prod.mk.inj hq;rw [mR (by rw [h.sz];exact(hd _ rfl).1),if_pos rfl];exact hs _ hkeep
   ·exact old hm λd' hd'=>by obtain rfl:=zsi hd';exact hne
theorem GIn.put {sl:bA} {G:List Nat} (f:GIn sl G) {d:Option Nat} {s:SV} (m:∀g∈s.ch,g.1∈G):GIn (tE sl d s) G:=by
 intro t q e
 cases d with
 |none=>exact f t q e
 |some d=>
  rcases qW e with e | ⟨-,j⟩
  ·obtain⟨rfl,rfl⟩:=Prod.mk.inj e;exact m
  ·exact f t q j
theorem sO {ops:Array Oper} {o:Oper} {g:Option (Nat×Bool)} (hg:aWK ops N o.guard=some g)(z:act.tmps.size=N):
 Region.wanted o (yielded ops act.tmps)=true↔∀x,g=some x->holds act.tmps x:=by
 unfold Region.wanted
 cases B:o.guard with
 |none=>rw [B] at hg;simp only [aWK,zse] at hg;subst hg;simp
 |some F=>
  obtain⟨j,b⟩:=F;rw [B] at hg;simp only [aWK] at hg;split at hg
  ·rename_i d E;split at hg
   ·rename_i m;simp only [zse] at hg;subst hg;have f:d<act.tmps.size:=by rw [z];exact m
    have e:act.tmps[d]? =some (act.tmps.getD d undef):=by rw [zK,Array.getElem?_eq_getElem f];rfl
    simp only [yielded,E,Option.bind_some,e,holds,zse,forall_eq'];constructor
    ·intro h;split at h
     ·rename_i C D;obtain rfl:C=b:=by simpa using h
      exact zsi D
     ·simp at h
    ·intro h;rw [h];simp
   ·cases hg
  ·cases hg
theorem aBH [qE](h:bJ U N σ st act w) {g:Option (Nat×Bool)} {ch:List (Nat×Bool)} {D:Bool} (hg:guardOf st.sl g=some (ch,D)):
 (ch=[]->D=true/\g=none)/\((∀x,g=some x->holds act.tmps x)->D=true)/\(D=true->∀x∈ch,holds act.tmps x)/\(∀x,g=some x->∃r,ch=x::r):=by
 cases g with
 |none=> simp only [guardOf,zse,Prod.mk.injEq] at hg;obtain⟨rfl,rfl⟩:=hg;simp
 |some F=>
  obtain⟨B,b⟩:=F;simp only [guardOf] at hg;split at hg
  ·rename_i s G;have e:=h.sl B s (gZ G);unfold SVR at e;split at hg
   ·rename_i x H;simp only [zse,Prod.mk.injEq] at hg;obtain⟨rfl,rfl⟩:=hg;rw [H] at e;refine⟨by simp,λz=>?_,λz y f=>?_,λy f=>⟨s.ch,by rw [<-zsi f]⟩⟩
    ·have C:act.tmps.getD B undef=.bool b:=z _ rfl;split
     ·rename_i j;rw [j] at e;simp only at e;rw [C] at e;cases e
      cases b <;> rfl
     ·rename_i q r j;rw [j] at e;simp only at e
      cases m:s.gc with
      |false=>have :=e.2.2 m;rw [C] at this;cases this
      |true=>
       have :=(e.2.1 m).2;rw [C] at this;cases this
       cases b <;> rfl
    ·split at z
     ·rename_i j;rw [j] at e f;simp only at e;simp only [zR] at f;subst f;generalize E:act.tmps.getD B undef=v at e;cases e
      unfold holds;rw [E];cases b <;> cases x <;> simp_all
     ·rename_i q r j;rw [j] at e f;simp only at e;simp only [zF] at z;obtain⟨k1,k2⟩:=e.2.1 z.1;rcases List.mem_cons.1 f with rfl |f
      ·generalize E:act.tmps.getD B undef=v at k2;cases k2
       unfold holds;rw [E];have :=z.2;cases b <;> cases x <;> simp_all
      ·exact k1 y f
   ·split at hg
    ·rename_i q r j m;simp only [zse,Prod.mk.injEq] at hg;obtain⟨rfl,rfl⟩:=hg;rw [j] at e;simp only at e;refine⟨by simp,λz=>?_,(λz=>by cases z),λy f=>⟨s.ch,by rw [<-zsi f]⟩⟩
     have C:act.tmps.getD B undef=.bool b:=z _ rfl;have :=e.2.2 m;rw [C] at this;cases this
    ·cases hg
   ·cases hg
  ·cases hg
theorem aWU {ρ:Operand→Value} {f:FuncId} {fn:Func} {args:Array Operand} {E:Array TypeId} (B:P.funcs[f]? =some fn)(m:fn.body.isSome=true)(z:(fn.name== "runtime.NumGoroutine")=false)
 (o:Oper) (C:o.op=.call { callee:=.value (.func f),args,argTypes:=E }) (D:ρ (.func f)=.func (.func f) #[] #[]):(execOp ρ o).run P w=.ok (.enter f (args.map ρ)) w:=by
 have e:¬fn.body=none:=λh=>by rw [h] at m;simp at m
 have j:¬fn.name= "runtime.NumGoroutine" :=fun h=>by rw [h] at z;simp at z
 simp [execOp,C,resolve,D,Deferred.ofValue,invoke,callFunc,B,j,e]
theorem aWV {ρ:Operand->Value} {f:FuncId} {t:Nat} {e:Array Value} (C:jL P f) {args:Array Operand} {G:Array TypeId}
 (o:Oper) (E:o.op=.call { callee:=.value (.tmp t),args,argTypes:=G }) (F:ρ (.tmp t)=.func (.func f) #[] e):(execOp ρ o).run P w=.ok (.enter f (args.map ρ++e)) w:=by
 obtain⟨fn,D,z,B⟩:=C;have j:¬fn.body=none:=λh=>by rw [h] at z;simp at z
 have m:¬fn.name= "runtime.NumGoroutine" :=fun h=>by rw [h] at B;simp at B
 simp [execOp,E,resolve,F,Deferred.ofValue,invoke,callFunc,D,m,j]
theorem aDB {l:List Operand} {xs:List A} (h:l.mapM bK=some xs):xs.length=l.length/\∀(i:Nat) x a,l[i]? =some x->xs[i]? =some a->bK x=some a:=by
 induction l generalizing xs with
 |nil=>simp only [List.mapM_nil] at h;obtain rfl:=zsi h;simp
 |cons y r B=>
  rw [List.mapM_cons] at h
  cases m:bK y with
  |none=>rw [m] at h;cases h
  |some a=>
   rw [m] at h
   cases f:r.mapM bK with
   |none=>rw [f] at h;cases h
   |some C=>
    rw [f] at h;obtain rfl:=zsi h;obtain⟨z,h2⟩:=B f;refine⟨by simp [z],λi x b j e=>?_⟩
    cases i with
    |zero=>simp only [zE,zse] at j e;subst j e;exact m
    |succ i=>exact h2 i x b (by simpa using j) (by simpa using e)
theorem aVY {ch:List (Nat×Bool)} {j:Bool} {i:I} {K:V->aD->Nat->Prop} (h:oC P st ch j i K)(m:ch≠ [])(e:j=false):∃v,K v st.so st.nx:=by
 unfold oC dO at h;split at h
 ·split at h
  ·split at h
   ·exact⟨_,h⟩
   ·split at h
    ·exact⟨_,h⟩
    ·exact⟨_,h⟩
  ·exact⟨_,h.2⟩
 ·split at h
  ·exact⟨_,h.2⟩
  ·cases h
 ·rcases h with ⟨f,-,-,h⟩|h |h |h
  ·exact⟨_,h⟩
  ·exact⟨_,h.2 e⟩
  ·exact⟨_,h.2 e⟩
  ·exact⟨_,h.2 e⟩
 ·split at h
  ·rcases h.2 with ⟨f,-,-,h⟩|h |h |h
   ·exact⟨_,h⟩
   ·exact⟨_,h.2 e⟩
   ·exact⟨_,h.2 e⟩
   ·exact⟨_,h.2 e⟩
  ·exact⟨_,h.2⟩
 all_goals first
  | (revert h;unfold mV;cases ch with
     |nil=>exact absurd rfl m
     |cons g r=>intro h;exact⟨_,h.2 e⟩)
  |exact bAQ h
def aZ5:I->Bool
 | .mv _=>true | .un _ _=>true | .bin _ _ _=>true | .conv _ _=>true | .nilck _=>true | .faddr _ _=>true | .fget _ _ _ _=>true | .ld _ _ _=>true
 | .iaddr _ _ _=>true | .iarr _ _ _ _=>true | .aidx _ _ _=>true | .slc3 _ _ _ _ _=>true | .isnil _ _=>true | .mkfn _ _=>true | .slc _ _ _ _=>true | .len _=>true | .eqb _ _ _=>true | .eqs _ _ _ _=>true | .mx _ _=>true | .mn _ _=>true | .extr _ _=>true | .mget _ _ _ _=>true | .mgetp _ _ _ _=>true
 | .slen _=>true | .sidx _ _=>true | .ssl _ _ _=>true | .scat _ _=>true | .sqs _ _ _=>true | .b2s _=>true
 |_=>false
def bDH:I->Bool
 | .alloc _=>true | .box _=>true | .st _ _ _=>true | .bslice _ _ _ _=>true | .mk _ _ _ _ _=>true | .mkmap _=>true | .mputp _ _ _=>true | .mput _ _ _=>true | .app _ _ _ _=>true | .cpy _ _ _=>true | .clr _ _ _=>true | .s2b _=>true | .aslc _ _ _=>true | .cpys _ _=>true
 |_=>false
theorem bDE {ch:List (Nat×Bool)} {e:Bool} {i:I} (h:aZ5 i=true)(K:V->aD->Nat->Prop):oC P st ch e i K=gQ st.so i (bR st.sl ch) e λv=>K v st.so st.nx:=by
 cases i <;> first |rfl | (simp [aZ5] at h)
theorem bDF {ch:List (Nat×Bool)} {e:Bool} {i:I} (h:bDH i=true)(K:V->aD->Nat->Prop):oC P st ch e i K=mV st.sl st.so st.nx ch e i K:=by
 cases i <;> first |rfl | (simp [bDH] at h)
theorem aRN {o:Op} {i:I} (h:aPI P o=some i):aZ5 i=true\/∃c a b c' a' b',o=.pick c a b/\i=.pick c' a' b'/\bK c=some c'/\bK a=some a'/\bK b=some b':=by
 unfold aPI at h;split at h
 case h_3=>
  split at h
  ·rename_i h1 h2 h3;obtain rfl:=zsi h;exact .inr ⟨_,_,_,_,_,_,rfl,rfl,h1,h2,h3⟩
  ·cases h
 all_goals
  left
  first
   | (simp only [zA] at h;obtain⟨a,h1,rfl⟩:=h;rfl)
   |skip
 all_goals
  repeat' (first | (cases h;done)| (obtain rfl:=zsi h;rfl)| (simp only [zA] at h;obtain⟨a,h1,rfl⟩:=h;rfl)|split at h)
theorem aEO {o:Op} {i:I} (h:aI7 P o=some i):aZ5 i=true\/∃c a b j e f,o=.pick c a b/\i=.pick j e f/\bK c=some j/\bK a=some e/\bK b=some f:=by
 unfold aI7 at h;split at h
 ·rename_i m;obtain rfl:=zsi h;exact aRN m
 ·left;unfold bEK at h;split at h
  all_goals
   repeat' (first | (cases h;done)| (obtain rfl:=zsi h;rfl)| (simp only [zA] at h;obtain⟨a,m,rfl⟩:=h;rfl)|split at h)
theorem aK3 {o:Op} {i:I} (h:bB1 P o=some i):bDH i=true:=by
 unfold bB1 at h;split at h
 all_goals
  repeat' (first | (cases h;done)| (obtain rfl:=zsi h;rfl)| (simp only [zA] at h;obtain⟨a,e,rfl⟩:=h;rfl)|split at h)
theorem bLA {S:aD} {n:Nat} {i:I} {e:A->V} {K:V->aD->Nat->Prop} (h:pO S n i e K):pO S n i e λv j f=>n<=f/\K v j f:=by
 revert h;unfold pO
 repeat' split
 all_goals intro h
 all_goals first
  |exact h.elim
  |exact⟨by omega,h⟩
  |exact⟨h.1,by omega,h.2⟩
  |exact⟨h.1,h.2.1,by omega,h.2.2⟩
  |exact⟨h.1,h.2.1,h.2.2.1,by omega,h.2.2.2⟩
  |exact⟨h.1,h.2.1,h.2.2.1,h.2.2.2.1,by omega,h.2.2.2.2⟩
  |exact⟨h.1,h.2.1,h.2.2.1,h.2.2.2.1,h.2.2.2.2.1,by omega,h.2.2.2.2.2⟩
  |exact⟨h.1,h.2.1,h.2.2.1,h.2.2.2.1,h.2.2.2.2.1,h.2.2.2.2.2.1,by omega,h.2.2.2.2.2.2⟩
  | (obtain⟨m,h2,z⟩:=h
     refine⟨m,h2,?_⟩;revert z
     repeat' split
     all_goals intro h
     all_goals first
      |exact h.elim
      |exact⟨h.1,h.2.1,by omega,h.2.2⟩
      |exact⟨h.1,h.2.1,h.2.2.1,h.2.2.2.1,h.2.2.2.2.1,by omega,h.2.2.2.2.2⟩)
theorem aBL [qE](h:bJ U N σ st act w) {m:Nat} (hmn:m<=st.nx)(hfree:∀i,i<16->st.so.get (m+i)=none/\σ (m+i)=none) {ops:Array Oper} {o:Oper} {i:I} {g:Option (Nat×Bool)} {d:Option Nat} (hi:aWL P o.op=some i)(hg:aWK ops N o.guard=some g)(hd:aWJ N o.dst=some d)
 {ch:List (Nat×Bool)} {gc:Bool} (hgu:guardOf st.sl g=some (ch,gc)) {G:List Nat} (hG:GIn st.sl G) (hdG:∀d',d=some d'->d'∉G) (hchG:∀x∈ch,x.1∈G)
 {KF:V->aD->Nat->Prop} (hK:oC P ⟨st.sl,st.so,m⟩ ch gc i KF) {next:Act->World->Prop} {Q:Exit->Act->World->Prop}
 (hnext:∀σ' v S' n1 cv w',KF v S' n1->m<=n1->bJ U N σ' ⟨tE st.sl d ⟨ch,gc,v⟩,S',max st.nx n1⟩ (act.put d cv) w'->bP σ st.so w st.nx σ' S' w' (max st.nx n1)->GIn (tE st.sl d ⟨ch,gc,v⟩) G->(∀k,¬(m<=k/\k<m+16)->σ' k=σ k)->next (act.put d cv) w'):
 if Region.wanted o (yielded ops act.tmps) then o.wp P act w next Q else next (act.put o.dst undef) w:=by
 obtain⟨c1,c2,c3,c4⟩:=aBH h hgu
 have hdd:o.dst=d/\∀d',d=some d'->d'<N:=by
  unfold aWJ at hd;split at hd
  ·rename_i h0;obtain rfl:=zsi hd;exact⟨h0,λ_ h=>by cases h⟩
  ·rename_i d0 h0;split at hd
   ·rename_i hlt;obtain rfl:=zsi hd;exact⟨h0,λd' hd'=>by obtain rfl:=zsi hd';exact hlt⟩
   ·cases hd
 obtain⟨hdst,hdN⟩:=hdd;have hdNG:∀d',d=some d'->d'<N/\d'∉G:=λd' h=>⟨hdN d' h,hdG d' h⟩;have hch':∀(s:SV),s.ch=ch->∀g∈s.ch,g.1∈G:=λs hs g hg=>hchG g (hs▸hg);rw [hdst]
 by_cases hw:Region.wanted o (yielded ops act.tmps)=true
 ·rw [if_pos hw];have hgc:gc=true:=c2 ((sO hg h.sz).1 hw);subst hgc;have hold:=c3 rfl;have hall:∀x a,bK x=some a->VR (Own U σ st.so) w σ (bR st.sl ch a) (act.eval x):=λx a hx=>iC h hold hx
  have fin:∀(v:V) (cv:Value) (σ':Sg) (S':aD) (w':World) (n':Nat),KF v S' n'->m<=n'->(∀k,¬(m<=k/\k<m+16)->σ' k=σ k)->VR (Own U σ' S') w' σ' v cv->aV U σ' S' w' (max st.nx n')->bP σ st.so w st.nx σ' S' w' (max st.nx n')->next (act.put d cv) w':=by
   intro v cv σ' S' w' n' hK hmn' hσ hv hR' g;refine hnext σ' v S' n' cv w' hK hmn' (h.put hG g hR' hdNG λtmps' ht=>?_) g (hG.put (hch' _ rfl)) hσ;unfold SVR;split
   ·exact hv
   ·rename_i gg r hc;refine⟨λ_=>rfl,λ_=>⟨λx hx=>?_,hv⟩,λh=>by cases h⟩
    have hc':ch=gg::r:=hc;exact(ht x (hchG x (hc'▸hx))).2 (hold x (hc'▸hx))
  have hmx:max st.nx m=st.nx:=by omega
  have rd:iM P U σ st.so w act.eval o.op (λv=>KF v st.so m)->o.wp P act w next Q:=by rintro ⟨v,cv,hk,hv,hrun⟩;unfold Oper.wp;rw [hrun w o rfl (aA3.refl w),Oper.upon_value,hdst];exact fin v cv σ st.so w m hk (zJ _) (λ_ _=>rfl) hv (by rw [hmx];exact h.rel) (by rw [hmx];exact bP.refl _ _ _ _)
  have wr:rL P U σ st.so w st.nx m act.eval o.op (λv S n=>m<=n/\KF v S n)->o.wp P act w next Q:=by
   rintro ⟨v,S',n',⟨hge,hk⟩,hrun⟩;obtain⟨nx,cv,w',σ',h1,h2,hσ,h3,h4,h5⟩:=hrun o rfl;have hσ':∀k,¬(m<=k/\k<m+16)->σ' k=σ k:=λk hk=>hσ k (by omega);unfold Oper.wp;rw [h1];rcases h2 with rfl | ⟨rfl,rfl⟩
   ·rw [Oper.upon_value,hdst];exact fin v cv σ' S' w' n' hk hge hσ' h5 h4 h3
   ·rw [Oper.upon_skip,hdst];exact fin v _ σ' S' w' n' hk hge hσ' h5 h4 h3
  unfold aWL at hi;split at hi
  ·rename_i i' hi';obtain rfl:=zsi hi;rcases aEO hi' with hrd | ⟨c,a,b,c',a',b',ho,rfl,e1,e2,e3⟩
   ·rw [bDE hrd] at hK;exact rd (aWH hi' (λ_=>rfl) h.rel hall hK)
   ·refine rd ?_;simp only [oC,dO] at hK;split at hK
    ·rename_i tc a'' b'' heq;obtain⟨rfl,rfl,rfl⟩:=I.pick.inj heq;split at hK
     ·rename_i x hx
      obtain⟨t,rfl⟩:∃t,c=.tmp t:=by
       cases c with
       |tmp t=>exact⟨t,rfl⟩
       |const v=>simp only [bK,zA] at e1;obtain⟨_,_,h⟩:=e1;cases h
       |func f=>simp [bK] at e1
       |global g=>simp only [bK,zA] at e1;obtain⟨_,_,h⟩:=e1;cases h
      obtain rfl:t=tc:=by simpa [bK] using e1
      have hcv:=hall _ _ e1;rw [hx] at hcv;generalize hvc:act.eval (.tmp t)=vc at hcv;cases hcv
      have hgx:holds act.tmps (t,x):=hvc;have run:∀(w':World) (o':Oper),o'.op=o.op->(execOp act.eval o').run P w'=.ok (.value (if x=true then act.eval a else act.eval b)) w':=by intro w' o' ho';simp [execOp,ho',ho,hvc,asBool]
      have ha:x=true->VR (Own U σ st.so) w σ (bR st.sl ((t,true)::ch) a') (act.eval a):=λhx=>iC h (ch:=(t,true)::ch) (λg hg=>by rcases List.mem_cons.1 hg with rfl |hg;exact hx▸hgx;exact hold g hg) e2
      have hb:x=false->VR (Own U σ st.so) w σ (bR st.sl ((t,false)::ch) b') (act.eval b):=λhx=>iC h (ch:=(t,false)::ch) (λg hg=>by rcases List.mem_cons.1 hg with rfl |hg;exact hx▸hgx;exact hold g hg) e3
      split at hK
      ·rename_i p q hp hq
       cases x with
       |true=> have :=ha rfl;rw [hp] at this;exact⟨_,act.eval a,hK,this,λw' o' ho' _=>by rw [run w' o' ho'];rfl⟩
       |false=> have :=hb rfl;rw [hq] at this;exact⟨_,act.eval b,hK,this,λw' o' ho' _=>by rw [run w' o' ho'];rfl⟩
      ·split at hK
       ·exact⟨_,act.eval a,hK,ha rfl,λw' o' ho' _=>by rw [run w' o' ho'];rfl⟩
       ·exact⟨_,act.eval b,hK,hb rfl,λw' o' ho' _=>by rw [run w' o' ho'];rfl⟩
     ·exact absurd hK.1 (by simp)
    all_goals first
     | (rename_i heq;cases heq;done)
     |exact(show False from hK).elim
  ·split at hi
   ·rename_i z ps hb;obtain rfl:=zsi hi;simp only [oC,dO] at hK;split at hK
    ·rename_i cs hcs;obtain⟨hz,hK⟩:=hK;obtain⟨cv,hv,hrun⟩:=aN9 (P:=P) hb hz hall hcs;exact rd ⟨_,cv,hK,hv,λw' o' ho' _=>hrun w' o' ho'⟩
    ·cases hK
   ·split at hi
    ·rename_i i' hi';obtain rfl:=zsi hi;rw [bDF (aK3 hi')] at hK;unfold mV at hK
     have hK:pO st.so m i' (bR st.sl ch) KF:=by
      cases ch with
      |nil=>exact hK
      |cons g r=>exact hK.1 rfl
     exact wr (bBT hi' h.rel (hfree 0 (by omega)) hmn (λx a hx=>iC h hold hx) (bLA hK))
    ·unfold aI6 at hi;split at hi
     case h_2=>obtain rfl:=zsi hi;exact hK.elim
     rename_i _ ic hic;obtain rfl:=zsi hi;clear hi;have hi:=hic;unfold aM5 at hi;split at hi
     ·rename_i f args ts hop;split at hi
      ·rename_i fn hfn;split at hi
       ·rename_i hb;simp only [zA] at hi;obtain⟨xs,hxs,rfl⟩:=hi;simp only [oC,dO] at hK;obtain⟨hlen,hget⟩:=aDB hxs;have hargs:∀(i:Nat) v c,(xs.map (bR st.sl ch))[i]? =some v->(args.map act.eval)[i]? =some c->VR (Own U σ st.so) w σ v c:=λi v c hv hc=>by rw [zT,zA] at hv;obtain⟨a,ha,rfl⟩:=hv;rw [zS,zA] at hc;obtain⟨x,hx,rfl⟩:=hc;exact hall x a (hget i x a (by simpa using hx) ha)
        unfold Oper.wp;rw [aWU hfn hb.1 hb.2 o hop rfl,Oper.upon_enter];rcases hK with ⟨res,hf,hbor,hK⟩| ⟨hK,-⟩| ⟨hK,-⟩| ⟨hK,-⟩
        ·obtain⟨hok,hfc⟩:=hf rfl;refine(aEI h.rel (args:=xs.map (bR st.sl ch)) (by simp [hlen]) hargs hok hfc hbor).mono λe w' ⟨cv,he,hv,hkp⟩=>?_;subst he;rw [hdst];exact fin res cv σ st.so w' m hK (zJ _) (λ_ _=>rfl) hv (by rw [hmx];exact h.rel.of_keep hkp) (by rw [hmx];exact bP.of_keep hkp)
        ·obtain⟨L,ob0,ob1,res,hfc,hlent,hnd,hle,hle2,hK⟩:=hK trivial;refine(aEX h.rel hfree (args:=xs.map (bR st.sl ch)) (by simp [hlen]) hargs hfc hlent hnd (zC hle) (zC hle2)).mono λe w' ⟨cv,σ',he,hσ,g,r,hv⟩=>?_;subst he;rw [hdst];exact fin _ cv σ' _ w' _ hK (by omega) hσ hv r g
        ·obtain⟨Fz,res,hfc,hok,hK⟩:=hK trivial;refine(aE5 h.rel (args:=xs.map (bR st.sl ch)) (by simp [hlen]) hargs hok hfc).mono λe w' ⟨cv,he,hv,hkp⟩=>?_;subst he;rw [hdst];have hR1:=(h.rel.frz Fz).of_keep hkp;have hG1:bP σ st.so w st.nx σ (kD st.so Fz) w' st.nx:=(bP.frz Fz).trans (bP.of_keep hkp);exact fin res cv σ _ w' _ hK (by omega) (λ_ _=>rfl) hv ⟨hR1.obj,hR1.inj,λk hk=>hR1.fresh k (by omega),hR1.disj,hR1.ulim,hR1.gl⟩ ⟨hG1.keep,hG1.own,hG1.sg,by omega⟩
        ·obtain⟨L,ob0,ob1,res,hfc,hlent,hnd,hle2,hK⟩:=hK trivial;refine(aEC h.rel hfree (args:=xs.map (bR st.sl ch)) (by simp [hlen]) hargs hfc hlent hnd (zC hle2)).mono λe w' ⟨cv,σ',he,hσ,g,r,hv⟩=>?_;subst he;rw [hdst];exact fin _ cv σ' _ w' _ hK (by omega) hσ hv r g
       ·cases hi
      ·cases hi
     ·rename_i t args ts hop;simp only [zA] at hi;obtain⟨xs,hxs,rfl⟩:=hi;simp only [oC,dO] at hK;have hfv:=hall (.tmp t) (.t t) rfl;split at hK
      ·rename_i f caps hcl0;obtain⟨hcal,hK⟩:=hK;rw [hcl0] at hfv;generalize hva:act.eval (.tmp t)=va at hfv
       cases hfv with
       | @fn _ _ _ arr hn0 hcaps=>
       obtain⟨hlen,hget⟩:=aDB hxs
       have hargs:∀(i:Nat) v c,(xs.map (bR st.sl ch)++caps)[i]? =some v->(args.map act.eval++arr)[i]? =some c->VR (Own U σ st.so) w σ v c:=λi v c hv hc=>by
        rw [List.getElem?_append,List.length_map] at hv;rw [Array.getElem?_append,Array.size_map] at hc;have hsz:xs.length=args.size:=by simpa using hlen
        split at hv
        ·rename_i hlt;rw [if_pos (by omega)] at hc;rw [zT,zA] at hv;obtain⟨a,ha,rfl⟩:=hv;rw [zS,zA] at hc;obtain⟨x,hx,rfl⟩:=hc;exact hall x a (hget i x a (by simpa using hx) ha)
        ·rename_i hlt;rw [if_neg (by omega),<-hsz] at hc;exact hcaps _ v c hv hc
       have hsz2:(args.map act.eval++arr).size=(xs.map (bR st.sl ch)++caps).length:=by
        have hsz:xs.length=args.size:=by simpa using hlen
        simp [hsz,hn0]
       unfold Oper.wp;rw [aWV hcal o hop hva,Oper.upon_enter];rcases hK with ⟨res,hf,hbor,hK⟩| ⟨hK,-⟩| ⟨hK,-⟩| ⟨hK,-⟩
       ·obtain⟨hok,hfc⟩:=hf rfl;refine(aEI h.rel (args:=xs.map (bR st.sl ch)++caps) hsz2 hargs hok hfc hbor).mono λe w' ⟨cv,he,hv,hkp⟩=>?_;subst he;rw [hdst];exact fin res cv σ st.so w' m hK (zJ _) (λ_ _=>rfl) hv (by rw [hmx];exact h.rel.of_keep hkp) (by rw [hmx];exact bP.of_keep hkp)
       ·obtain⟨L,ob0,ob1,res,hfc,hlent,hnd,hle,hle2,hK⟩:=hK trivial;refine(aEX h.rel hfree (args:=xs.map (bR st.sl ch)++caps) hsz2 hargs hfc hlent hnd (zC hle) (zC hle2)).mono λe w' ⟨cv,σ',he,hσ,g,r,hv⟩=>?_;subst he;rw [hdst];exact fin _ cv σ' _ w' _ hK (by omega) hσ hv r g
       ·obtain⟨Fz,res,hfc,hok,hK⟩:=hK trivial;refine(aE5 h.rel (args:=xs.map (bR st.sl ch)++caps) hsz2 hargs hok hfc).mono λe w' ⟨cv,he,hv,hkp⟩=>?_;subst he;rw [hdst];have hR1:=(h.rel.frz Fz).of_keep hkp;have hG1:bP σ st.so w st.nx σ (kD st.so Fz) w' st.nx:=(bP.frz Fz).trans (bP.of_keep hkp);exact fin res cv σ _ w' _ hK (by omega) (λ_ _=>rfl) hv ⟨hR1.obj,hR1.inj,λk hk=>hR1.fresh k (by omega),hR1.disj,hR1.ulim,hR1.gl⟩ ⟨hG1.keep,hG1.own,hG1.sg,by omega⟩
       ·obtain⟨L,ob0,ob1,res,hfc,hlent,hnd,hle2,hK⟩:=hK trivial;refine(aEC h.rel hfree (args:=xs.map (bR st.sl ch)++caps) hsz2 hargs hfc hlent hnd (zC hle2)).mono λe w' ⟨cv,σ',he,hσ,g,r,hv⟩=>?_;subst he;rw [hdst];exact fin _ cv σ' _ w' _ hK (by omega) hσ hv r g
      ·exact absurd hK.1 (by simp)
     ·cases hi
 ·rw [if_neg hw];have hne:ch≠ []:=λh0=>hw ((sO hg h.sz).2 λx hx=>by rw [(c1 h0).2] at hx;cases hx)
  have hgf:gc=false:=by
   cases hgc:gc with
   |false=>rfl
   |true=> refine absurd ((sO hg h.sz).2 λx hx=>?_) hw;obtain⟨r,hr⟩:=c4 x hx;exact c3 hgc x (by rw [hr];simp)
  obtain⟨v,hv⟩:=aVY hK hne hgf;have hmx:max st.nx m=st.nx:=by omega
  refine hnext σ v _ _ undef w hv (zJ _) (h.put hG (by rw [hmx];exact bP.refl _ _ _ _) (by rw [hmx];exact h.rel) hdNG λtmps' ht=>?_) (by rw [hmx];exact bP.refl _ _ _ _) (hG.put (hch' _ rfl)) (λ_ _=>rfl);unfold SVR;split
  ·rename_i hc;exact absurd hc hne
  ·rename_i gg r hc;refine⟨λhh=>?_,⟨λhg'=>absurd (show gc=true from hg') (by simp [hgf]),λ_=>rfl⟩⟩;have hc':ch=gg::r:=hc;have :=(ht gg (hchG gg (by rw [hc'];simp))).1 hh
   cases hgg:g with
   |none=> rw [hgg] at hgu;simp only [guardOf,zse,Prod.mk.injEq] at hgu;rw [<-hgu.1] at hne;exact absurd rfl hne
   |some x=> obtain⟨r',hr'⟩:=c4 x hgg;rw [hc'] at hr';obtain⟨rfl,-⟩:=List.cons.inj hr';exact c2 λy hy=>by rw [hgg] at hy;obtain rfl:=zsi hy;exact this
end
end Go.Sk
namespace Go.Sk
open Go Go.RowKit
variable [gL]
def aGZ(k:Nat):List (Option Nat)->Bool
 | []=>false
 |some j::r=>Nat.beq k j||aGZ k r
 |none::r=>aGZ k r
theorem uB:∀ {k:Nat} {l:List (Option Nat)},aGZ k l=false->some k∉l
 |_,[],_=>by simp
 |k,some j::r,h=>by simp only [aGZ,Bool.or_eq_false_iff] at h;have e:k≠j:=zH h.1;have h2:=uB h.2;simp [e,h2]
 |k,none::r,h=>by simp only [aGZ] at h;have h2:=uB h;simp [h2]
def sF:List (Option Nat)->Bool
 | []=>true
 |none::r=>sF r
 |some k::r=> !aGZ k r&&sF r
def vw1(S:aD)(ids:List (Option Nat))(x y:V):Prop:=
 match y with
 | .any=>True
 | .sl j off len=>match x with
   | .sl k off' len'=>ids[j]? =some (some k)/\off'=off/\len'=len
   | .slk k off' len' _=>ids[j]? =some (some k)/\off'=off/\len'=len
   | .lst _ t xs=>ids[j]? =some none/\t=true/\xs=[]/\off=0/\len=0
   |_=>False
 | .slk j off len c=>match x with
   | .slk k off' len' c'=>ids[j]? =some (some k)/\off'=off/\len'=len/\c'=c
   |_=>False
 | .ptr j i c=>match x with
   | .ptr k i' c'=>ids[j]? =some (some k)/\i'=i/\c'=c
   |_=>False
 | .mp j=>match x with
   | .mp k=>ids[j]? =some (some k)
   |_=>False
 | .lst es t xs=>match x with
   | .lst es' t' xs'=>(es'=es\/xs=[])/\(t=true->t'=true)/\xs'=xs
   | .sl k off len=>match S.get k with
     |some (.row es' xs')=>es'=es/\t=false/\off+len<=xs'.length/\(xs'.drop off).take len=xs/\aGZ k ids=false
     |_=>False
   | .slk k off len c=>match S.get k with
     |some (.row es' xs')=>es'=es/\(t=true->c=len)/\off+len<=xs'.length/\(xs'.drop off).take len=xs/\aGZ k ids=false
     |_=>False
   |_=>False
 | .int k m=>match x with
   | .int k' m'=>k'=k/\m'=m
   |_=>False
 | .bool b=>match x with
   | .bool b'=>b'=b
   |_=>False
 | .str s=>x=.str s
 | .nil=>x=.nil
 | .val v=>x=.val v
 | .rp es cs c=>x=.rp es cs c
 |_=>False
def aN5(p:V->V->Prop):List V->List V->Prop
 | [],[]=>True
 |x::xs,y::ys=>p x y/\aN5 p xs ys
 |_,_=>False
theorem tI {p:V->V->Prop} :∀ {xs ys:List V},aN5 p xs ys->xs.length=ys.length/\∀(i:Nat) y,ys[i]? =some y->∃x,xs[i]? =some x/\p x y
 | [],[],_=>by simp
 | [],_::_,h=>h.elim
 |_::_,[],h=>h.elim
 |x::xs,y::ys,h=>by
  obtain⟨f,h2⟩:=h;obtain⟨j,h4⟩:=tI h2;refine⟨by simp [j],λi z e=>?_⟩
  cases i with
  |zero=>simp only [zE,zse] at e;subst e;exact⟨x,rfl,f⟩
  |succ i=>exact h4 i z (by simpa using e)
def vw2(S:aD)(ids:List (Option Nat))(x y:V):Prop:=
 match y with
 | .agg ys=>match x with
   | .agg xs=>aN5 (vw1 S ids) xs ys
   |_=>False
 | .fn g ys=>match x with
   | .fn f xs=>f=g/\aN5 (vw1 S ids) xs ys
   |_=>False
 |y=>vw1 S ids x y
def vw3(S:aD)(ids:List (Option Nat))(x y:V):Prop:=
 match y with
 | .tup ys=>match x with
   | .tup xs=>aN5 (vw2 S ids) xs ys
   |_=>False
 |y=>vw2 S ids x y
def bBO(S:aD)(ids:List (Option Nat))(x y:Obj):Prop:=
 match x,y with
 | .row es xs,.row es' ys=>es=es'/\xs=ys
 | .box xs,.box ys=>aN5 (vw1 S ids) xs ys
 | .mp xs,.mp ys=>xs=ys
 | .bb xs,.bb ys=>xs=ys
 | .box xs,.row es rows=>es=xs.length/\rows=[xs]/\xs.all cN=true
 |_,_=>False
def pN(S:aD)(ids:List (Option Nat)):List (Option Nat)->List Obj->Prop
 | [],[]=>True
 |some k::r,o::os=>(match S.get k with |some p=>bBO S ids p o |none=>False)/\pN S ids r os
 |none::r,o::os=>(match o with | .row _ xs=>xs=[] |_=>False)/\pN S ids r os
 |_,_=>False
def aDH:List (Option Nat)->Prop
 | []=>True
 |none::r=>aDH r
 |some k::r=>some k∉r/\aDH r
theorem oJ:∀ {l:List (Option Nat)},sF l=true->aDH l
 | [],_=>trivial
 |none::r,h=>oJ (l:=r) h
 |some k::r,h=>by simp only [sF,zF,Bool.not_eq_true'] at h;exact⟨uB h.1,oJ h.2⟩
def oW:Nat->Nat->List (Option Nat)->Prop
 |_,0,_=>True
 |i,m+1,some k::r=>k=i/\oW (i+1) m r
 |_,_+1,_=>False
theorem mK:∀(m i:Nat) (ids:List (Option Nat)),oW i m ids->∀j,j<m->ids[j]? =some (some (i+j))
 |0,_,_,_,j,e=>by omega
 |m+1,i,some k::r,h,j,e=>by
  obtain⟨rfl,h⟩:=h
  cases j with
  |zero=>rfl
  |succ j=>
   have :=mK m (k+1) r h j (by omega);rw [List.getElem?_cons_succ,this]
   congr 2;omega
 |m+1,i,[],h,j,e=>h.elim
 |m+1,i,none::r,h,j,e=>h.elim
theorem aHP:∀ {l:List (Option Nat)},aDH l->∀(i j k:Nat),l[i]? =some (some k)->l[j]? =some (some k)->i=j
 | [],_,i,j,k,h,_=>by simp at h
 |a::r,f,i,j,k,hi,e=>by
  have m:aDH r:=by cases a <;> first |exact f |exact f.2
  cases i with
  |zero=>
   simp only [zE,zse] at hi;subst hi
   cases j with
   |zero=>rfl
   |succ j=>exact absurd (zG (by simpa using e)) f.1
  |succ i=>
   cases j with
   |zero=> simp only [zE,zse] at e;subst e;exact absurd (zG (by simpa using hi)) f.1
   |succ j=>rw [aHP m i j k (by simpa using hi) (by simpa using e)]
theorem jF {S:aD} {ids:List (Option Nat)} :∀ {l:List (Option Nat)} {obs:List Obj},pN S ids l obs->l.length=obs.length/\∀(j:Nat) o,obs[j]? =some o->
 (∃k p,l[j]? =some (some k)/\S.get k=some p/\bBO S ids p o)\/(l[j]? =some none/\∃es,o=.row es [])
 | [],[],_=>by simp
 | [],_::_,h=>h.elim
 |some _::_,[],h=>h.elim
 |none::_,[],h=>h.elim
 |some k::r,o::B,h=>by
  obtain⟨e,h2⟩:=h;obtain⟨m,h4⟩:=jF h2;refine⟨by simp [m],λj q f=>?_⟩
  cases j with
  |zero=>
   simp only [zE,zse] at f;subst f;split at e
   ·rename_i p z;exact .inl ⟨k,p,rfl,z,e⟩
   ·cases e
  |succ j=>simpa using h4 j q (by simpa using f)
 |none::r,o::B,h=>by
  obtain⟨e,h2⟩:=h;obtain⟨m,h4⟩:=jF h2;refine⟨by simp [m],λj q f=>?_⟩
  cases j with
  |zero=>
   simp only [zE,zse] at f;subst f;split at e
   ·subst e;exact .inr ⟨rfl,_,rfl⟩
   ·cases e
  |succ j=>simpa using h4 j q (by simpa using f)
def rJ(σ:Sg)(ids:List (Option Nat))(obs:List Obj):Sg:=λj=>
 match ids[j]? with
 |some (some k)=>σ k
 |some none=>match obs[j]? with
  |some (.row es _)=>some (none,es,0)
  |_=>none
 |none=>none
section
variable {U:Nat->Prop} {σ:Sg} {S:aD} {w:World} {n:Nat} {ids:List (Option Nat)} {obs:List Obj}
theorem jO(e:pN S ids ids obs) {b:Nat} (h:fD (rJ σ ids obs) (aI 0 obs) b):∃(j k:Nat) (p:Obj) (es cap:Nat),ids[j]? =some (some k)/\S.get k=some p/\σ k=some (some b,es,cap):=by
 obtain⟨j,o,es,cap,m,z⟩:=h;rw [eV,if_pos (zQ _),zM] at m;rcases(jF e).2 j o m with ⟨k,p,f,h2,C⟩| ⟨f,B,rfl⟩
 ·simp only [rJ,f] at z;exact⟨j,k,p,es,cap,f,h2,z⟩
 ·simp [rJ,f,m] at z
theorem lW(e:pN S ids ids obs) {b:Nat} (h:Own U (rJ σ ids obs) (aI 0 obs) b):Own U σ S b:= h.imp id λh=>by obtain⟨j,k,p,es,cap,-,h2,f⟩:=jO e h;exact⟨k,p,es,cap,h2,f⟩
theorem aMP(M:aV U σ S w n)(e:pN S ids ids obs) {x y:V} {v:Value} (h:vw1 S ids x y)(hv:VR (Own U σ S) w σ x v):VR (Own U (rJ σ ids obs) (aI 0 obs)) w (rJ σ ids obs) y v:=by
 have sub:∀ {x v},VR (Own U σ S) w (λ_=>none) x v->∀σ',VR (Own U (rJ σ ids obs) (aI 0 obs)) w σ' x v:=λh σ'=>(h.mono (cG.refl _ _) (λb _ h=>lW e h) λ_ _=>rfl:VR _ _ (λ_=>none) _ _).lift σ';have H:=(jF e).1;unfold vw1 at h;split at h
 ·exact .any _
 ·split at h
  ·obtain⟨z,rfl,rfl⟩:=h;have C:∀j k,ids[j]? =some (some k)->rJ σ ids obs j=σ k:=λj k h=>by simp [rJ,h]
   cases hv with
   |sl m B G=>exact .sl ((C _ _ z).trans m) B G
   |sl0 m=>exact .sl0 ((C _ _ z).trans m)
  ·obtain⟨z,rfl,rfl⟩:=h;have C:∀j k,ids[j]? =some (some k)->rJ σ ids obs j=σ k:=λj k h=>by simp [rJ,h]
   cases hv with
   |slk m B G hc=>subst hc;exact .sl ((C _ _ z).trans m) B G
   |slk0 m=>exact .sl0 ((C _ _ z).trans m)
  ·obtain⟨z,rfl,rfl,rfl,rfl⟩:=h
   cases hv with
   |lst b o cv G Z F O R Y W=>
    have J:=O rfl;subst J;obtain⟨hj,-⟩:=List.getElem?_eq_some_iff.1 z;rcases(jF e).2 _ _ (zL (H▸hj)) with ⟨k,p,Q,-⟩| ⟨-,es,he⟩
    ·rw [z] at Q;cases Q
    ·exact .sl0 (es:=es) (by simp [rJ,z,zL (H▸hj),he])
  ·cases h
 ·split at h
  ·obtain⟨z,rfl,rfl,rfl⟩:=h;have C:∀j k,ids[j]? =some (some k)->rJ σ ids obs j=σ k:=λj k h=>by simp [rJ,h]
   cases hv with
   |slk m B G hc=>exact .slk ((C _ _ z).trans m) B G hc
   |slk0 m=>exact .slk0 ((C _ _ z).trans m)
  ·cases h
 ·split at h
  ·obtain⟨z,rfl,rfl⟩:=h;have C:∀j k,ids[j]? =some (some k)->rJ σ ids obs j=σ k:=λj k h=>by simp [rJ,h]
   cases hv with
   |ptr m=>exact .ptr ((C _ _ z).trans m)
  ·cases h
 ·split at h
  ·have C:∀j k,ids[j]? =some (some k)->rJ σ ids obs j=σ k:=λj k h=>by simp [rJ,h]
   cases hv with
   |mp m=>exact .mp ((C _ _ h).trans m)
  ·cases h
 ·split at h
  ·obtain⟨z,h2,rfl⟩:=h;refine sub ?_ _
   cases hv with
   | @lst _ _ _ _ ad cap b o cv G Z F O R Y W=>
     rcases z with rfl |rfl
     ·exact .lst b o cv G Z F (λhh=>O (h2 hh)) R Y W
     ·exact .lst (xs:= []) b o cv (by simp) (by simp) F (λhh=>O (h2 hh)) (by simp) (by simp) (by simp)
  ·split at h
   ·rename_i k aa len _ E ab K;obtain⟨rfl,rfl,B,rfl,hk⟩:=h
    exact(aMD M (λb h=>lW e h) hv K B λb es cap m f=>by
     rcases f with hu |f
     ·exact M.disj b ⟨k,_,_,_,K,m⟩ hu
     ·obtain⟨j,k',p,E,D,z,h2,h3⟩:=jO e f;obtain rfl:=M.inj k k' _ _ b es cap E D K h2 m h3;exact uB hk (zG z)).lift _
   ·cases h
  ·split at h
   ·rename_i k aa len c _ E ab K;obtain⟨rfl,O,B,rfl,hk⟩:=h
    exact(aME M (λb h=>lW e h) hv K B (λb es cap m f=>by
     rcases f with hu |f
     ·exact M.disj b ⟨k,_,_,_,K,m⟩ hu
     ·obtain⟨j,k',p,E,D,z,h2,h3⟩:=jO e f;obtain rfl:=M.inj k k' _ _ b es cap E D K h2 m h3;exact uB hk (zG z)) _ O).lift _
   ·cases h
  ·cases h
 ·split at h
  ·obtain⟨rfl,rfl⟩:=h;cases hv;exact .int _ _
  ·cases h
 ·split at h
  ·obtain rfl:=h;cases hv;exact .bool _
  ·cases h
 ·subst h;exact sub (aY hv rfl) _
 ·subst h;exact sub (aY hv rfl) _
 ·subst h;cases hv;exact .val _
 ·subst h;exact sub (aY hv rfl) _
 ·cases h
theorem aS0(m:aV U σ S w n)(e:pN S ids ids obs) {x y:V} {v:Value} (h:vw2 S ids x y)(hv:VR (Own U σ S) w σ x v):VR (Own U (rJ σ ids obs) (aI 0 obs)) w (rJ σ ids obs) y v:=by
 unfold vw2 at h;split at h
 ·split at h
  ·obtain⟨j,h2⟩:=tI h
   cases hv with
   |agg B z=> refine .agg (by rw [B,j]) λi y u E C=>?_;obtain⟨x,D,f⟩:=h2 i y E;exact aMP m e f (z i x u D C)
  ·cases h
 ·split at h
  ·obtain⟨rfl,h⟩:=h;obtain⟨j,h2⟩:=tI h
   cases hv with
   |fn B z=> refine .fn (by rw [B,j]) λi y u E C=>?_;obtain⟨x,D,f⟩:=h2 i y E;exact aMP m e f (z i x u D C)
  ·cases h
 ·exact aMP m e h hv
theorem aIL(j:aV U σ S w n)(e:pN S ids ids obs) {x y:V} {v:Value} (h:vw3 S ids x y)(hv:VR (Own U σ S) w σ x v):VR (Own U (rJ σ ids obs) (aI 0 obs)) w (rJ σ ids obs) y v:=by
 unfold vw3 at h;split at h
 ·split at h
  ·obtain⟨m,h2⟩:=tI h
   cases hv with
   |tup B z=> refine .tup (by rw [B,m]) λi y u E C=>?_;obtain⟨x,D,f⟩:=h2 i y E;exact aS0 j e f (z i x u D C)
  ·cases h
 ·exact aS0 j e h hv
theorem aV.view(hR:aV U σ S w n)(hobs:pN S ids ids obs)(hnd:aDH ids):aV U (rJ σ ids obs) (aI 0 obs) w obs.length where
 obj:=λj o hj=>by
  rw [eV,if_pos (zQ _),zM] at hj;rcases(jF hobs).2 j o hj with ⟨k,p,h1,h2,h3⟩| ⟨h1,es',rfl⟩
  ·have hob:=hR.obj k p h2;have hs:rJ σ ids obs j=σ k:=by simp [rJ,h1]
   rw [hs];unfold bBO at h3;split at h3
   ·obtain⟨rfl,rfl⟩:=h3;obtain⟨hl,h⟩:=hob;refine⟨hl,?_⟩;rcases hσ:σ k with _ | ⟨_ |b,es',cap⟩
    ·rw [hσ] at h;exact h
    ·rw [hσ] at h;exact h
    ·rw [hσ] at h;obtain⟨e1,e2,arr,ty,e3,e4,e5⟩:=h;refine⟨e1,e2,arr,ty,e3,e4,λi x c y hx hy=>?_⟩;obtain⟨u,q1,q2,q3⟩:=e5 i x c y hx hy;exact⟨u,q1,q2,q3.mono (cG.refl _ _) (λb _ h=>lW hobs h) λ_ _=>rfl⟩
   ·obtain⟨hl,hg⟩:=tI h3;obtain⟨b,e1,arr,ty,e3,e4,e5⟩:=hob;refine⟨b,by rw [e1,hl],arr,ty,e3,by rw [e4,hl],λc y hy=>?_⟩;obtain⟨x,hx,hxy⟩:=hg c y hy;obtain⟨u,q1,q2,q3⟩:=e5 c x hx;exact⟨u,q1,q2,aMP hR hobs hxy q3⟩
   ·subst h3;obtain⟨b,e1,es,ck,e3,e4,e5⟩:=hob;refine⟨b,e1,es,ck,e3,e4,λi p hp=>?_⟩;obtain⟨en,q1,q2,q3⟩:=e5 i p hp;exact⟨en,q1,q2,q3.mono (cG.refl _ _) (λb _ h=>lW hobs h) λ_ _=>rfl⟩
   ·subst h3;exact hob
   ·rename_i xs es rows;obtain⟨rfl,rfl,hf⟩:=h3;obtain⟨b,e1,arr,ty,e3,e4,e5⟩:=hob;refine⟨λx hx=>by rw [List.mem_singleton.1 hx],?_⟩;rw [e1];refine⟨rfl,⟨by simp,by omega⟩,arr,(ty,false),e3,by rw [Nat.one_mul,e4];exact zJ _,λi x c y hx hy=>?_⟩
    cases i with
    |succ i=>simp at hx
    |zero=> simp only [zE,zse] at hx;subst hx;obtain⟨u,q1,q2,q3⟩:=e5 c y hy;exact⟨u,by rw [Nat.zero_mul,Nat.zero_add];exact q1,q2,(aY q3 (List.all_eq_true.1 hf y (zG hy))).mono (cG.refl _ _) (λb _ h=>lW hobs h) λ_ _=>rfl⟩
   ·cases h3
  ·exact⟨by simp,by simp [rJ,h1,hj]⟩
 inj:=λj j' o o' b es cap es' cap' hj hj' hs hs'=>by
  rw [eV,if_pos (zQ _),zM] at hj hj';rcases(jF hobs).2 j o hj with ⟨k,p,h1,h2,h3⟩| ⟨h1,es1,rfl⟩
  ·rcases(jF hobs).2 j' o' hj' with ⟨k',p',h1',h2',h3'⟩| ⟨h1',es1,rfl⟩
   ·simp only [rJ,h1] at hs;simp only [rJ,h1'] at hs';obtain rfl:=hR.inj k k' p p' b es cap es' cap' h2 h2' hs hs';exact aHP hnd j j' k h1 h1'
   ·simp [rJ,h1',hj'] at hs'
  ·simp [rJ,h1,hj] at hs
 fresh:=λj hj=>by have hlen:=(jF hobs).1;refine⟨by rw [eV,if_pos (zQ _),zM,zO (by omega)],?_⟩;simp [rJ,zO (show ids.length<=j by omega)]
 disj:=λb hb hu=>by obtain⟨j,k,p,es,cap,-,h2,h3⟩:=jO hobs hb;exact hR.disj b ⟨k,p,es,cap,h2,h3⟩ hu
 ulim:=hR.ulim
 gl:=hR.gl.less λb h=>lW hobs h
end
end Go.Sk
namespace Go.Sk
open Go Go.RowKit
variable [gL]
def oB:V->(V->Prop)->Prop
 | .any,K=>K .any
 | .int k n,K=>K (.int k n)
 | .bool b,K=>K (.bool b)
 | .str s,K=>K (.str s)
 | .agg cs,K=>K (.agg cs)
 | .tup cs,K=>K (.tup cs)
 | .nil,K=>K .nil
 | .ptr k i c,K=>K (.ptr k i c)
 | .rp es cs c,K=>K (.rp es cs c)
 | .sl k off len,K=>K (.sl k off len)
 | .slx k off len,K=>K (.slx k off len)
 | .slk k off len c,K=>K (.slk k off len c)
 | .lst es t xs,K=>K (.lst es t xs)
 | .fn f cs,K=>K (.fn f cs)
 | .mp k,K=>K (.mp k)
 | .val v,K=>K (.val v)
theorem jA(v:V)(K:V->Prop):oB v K=K v:=by cases v <;> rfl
def jX:List V->(List V->Prop)->Prop
 | [],K=>K []
 |v::r,K=>oB v λv=>jX r λr=>K (v::r)
theorem gB:∀(l:List V) (K:List V->Prop),jX l K=K l
 | [],_=>rfl
 |v::r,K=>by simp only [jX,jA,gB r]
def dN:aD->(aD->Prop)->Prop
 | [],K=>K []
 | (j,.row es xs)::r,K=>dN r λr'=>K ((j,.row es xs)::r')
 | (j,.box cs)::r,K=>jX cs λcs=>dN r λr'=>K ((j,.box cs)::r')
 | (j,.mp xs)::r,K=>dN r λr'=>K ((j,.mp xs)::r')
 | (j,.bb l)::r,K=>dN r λr'=>K ((j,.bb l)::r')
theorem eU:∀(S:aD) (K:aD->Prop),dN S K=K S
 | [],_=>rfl
 | (j,.row es xs)::r,K=>by simp only [dN,eU r]
 | (j,.box cs)::r,K=>by simp only [dN,gB,eU r]
 | (j,.mp xs)::r,K=>by simp only [dN,eU r]
 | (j,.bb l)::r,K=>by simp only [dN,eU r]
def aNN:bA->Nat->(bA->Prop)->Prop
 | [],_,K=>K []
 | (j,q)::r,d,K=>match Nat.beq d j with
   |true=>aNN r d K
   |false=>aNN r d λr'=>K ((j,q)::r')
theorem aGP:∀(l:bA) (d:Nat) (K:bA->Prop),aNN l d K=K (aIS l d)
 | [],_,_=>rfl
 | (j,q)::r,d,K=>by
   simp only [aNN,aIS]
   cases h:Nat.beq d j with
   |true=>rw [if_pos (zI h)];exact aGP r d K
   |false=>rw [if_neg (zH h)];exact aGP r d _
def aUE:bA->Nat->SV->(bA->Prop)->Prop
 | [],d,s,K=>K [(d,s)]
 | (j,q)::r,d,s,K=>match Nat.beq d j with
   |true=>aNN r d λr'=>K ((d,s)::r')
   |false=>aUE r d s λr'=>K ((j,q)::r')
theorem aPN:∀(l:bA) (d:Nat) (s:SV) (K:bA->Prop),aUE l d s K=K (aFD l d s)
 | [],_,_,_=>rfl
 | (j,q)::r,d,s,K=>by
   simp only [aUE,aFD]
   cases h:Nat.beq d j with
   |true=>rw [if_pos (zI h)];exact aGP r d _
   |false=>rw [if_neg (zH h)];exact aPN r d s _
def aC3(l:bA)(d:Option Nat)(s:SV)(K:bA->Prop):Prop:=
 match d with
 |some d=>aUE l d s K
 |none=>K l
theorem rF(l:bA)(d:Option Nat)(s:SV)(K:bA->Prop):aC3 l d s K=K (tE l d s):=by
 cases d with
 |none=>rfl
 |some d=>exact aPN l d s K
def cL:Nat->Nat->Nat->(Nat->Prop)->Prop
 |0,_,n,K=>K n
 |f+1,i,n,K=>match Nat.beq n i with
  |true=>K i
  |false=>cL f (i+1) n K
theorem dS:∀(f i n:Nat) (K:Nat->Prop),cL f i n K=K n
 |0,_,_,_=>rfl
 |f+1,i,n,K=>by
  simp only [cL]
  cases h:Nat.beq n i with
  |true=>rw [zI h]
  |false=>exact dS f (i+1) n K
def dI:List Nat->(List Nat->Prop)->Prop
 | [],K=>K []
 |k::r,K=>dI r λr'=>K (k::r')
theorem fZ:∀(l:List Nat) (K:List Nat->Prop),dI l K=K l
 | [],_=>rfl
 |k::r,K=>by simp only [dI,fZ r]
def rX:bA->(bA->Prop)->Prop
 | [],K=>K []
 | (d,⟨ch,gc,v⟩)::r,K=>oB v λv=>rX r λr'=>K ((d,⟨ch,gc,v⟩)::r')
theorem oA:∀(l:bA) (K:bA->Prop),rX l K=K l
 | [],_=>rfl
 | (d,⟨ch,e,v⟩)::r,K=>by simp only [rX,jA,oA r]
def rY(sl:bA)(g:Option (Nat×Bool))(K:List (Nat×Bool)->Bool->Prop):Prop:=
 match g with
 |none=>K [] true
 |some (gd,b)=>match eI sl gd with
  |some ⟨ch,gc,v⟩=>(match v with
   | .bool x=>(match ch,b with
     | [],true=>K [(gd,true)] x
     | [],false=>K [(gd,false)] (!x)
     |c::r,true=>K ((gd,true)::c::r) (gc&&x)
     |c::r,false=>K ((gd,false)::c::r) (gc&& !x))
   | .any=>(match ch,gc with
     |c::r,false=>K ((gd,b)::c::r) false
     |_,_=>False)
   |_=>False)
  |none=>False
theorem nK(sl:bA)(g:Option (Nat×Bool))(K:List (Nat×Bool)->Bool->Prop):rY sl g K=match guardOf sl g with
 |none=>False
 |some (ch,e)=>K ch e:=by
 cases g with
 |none=>rfl
 |some p=>
  obtain⟨f,b⟩:=p;simp only [rY,guardOf]
  cases h:eI sl f with
  |none=>rfl
  |some s=> obtain⟨ch,e,v⟩:=s;cases v <;> first |rfl | (cases ch <;> cases b <;> rfl)| (cases ch <;> cases e <;> rfl)
end Go.Sk
namespace Go.Sk
open Go Go.RowKit
variable [gL]
theorem aXT {op:BinOp} {k:IntKind} {a b:Int} {e:Bool} {K:V->Prop} (h:aF6 op k a b e K):∃v,K v/\aF6 op k a b e λf=>f=v:=by
 cases op <;> simp only [aF6] at h⊢<;> first |exact⟨_,h,rfl⟩|exact⟨_,h.2,h.1,rfl⟩
theorem aM0 {S:aD} {i:I} {e:A->V} {j:Bool} {K:V->Prop} (h:gQ S i e j K):∃v,K v/\gQ S i e j λm=>m=v:=by
 revert h;unfold gQ
 repeat' split
 all_goals intro h
 all_goals first
  |exact h.elim
  | (obtain⟨v,f,h2⟩:=aXT h.2;exact⟨v,f,h.1,h2⟩)
  | (obtain⟨r,f,h2⟩:=tX h;exact⟨_,f,qJ (λr' e=>by subst e;rfl) h2⟩)
  |exact⟨_,h,rfl⟩
  |exact⟨_,h.2,h.1,rfl⟩
  |exact⟨_,h.2.2,h.1,h.2.1,rfl⟩
theorem aUV {S:aD} {n:Nat} {i:I} {e:A->V} {K:V->aD->Nat->Prop} (h:pO S n i e K):∃v f m,K v f m/\pO S n i e λa b c=>a=v/\b=f/\c=m:=by
 revert h;unfold pO
 repeat' split
 all_goals intro h
 all_goals first
  |exact h.elim
  |exact⟨_,_,_,h,rfl,rfl,rfl⟩
  |exact⟨_,_,_,h.2,h.1,rfl,rfl,rfl⟩
  |exact⟨_,_,_,h.2.2,h.1,h.2.1,rfl,rfl,rfl⟩
  |exact⟨_,_,_,h.2.2.2,h.1,h.2.1,h.2.2.1,rfl,rfl,rfl⟩
  |exact⟨_,_,_,h.2.2.2.2,h.1,h.2.1,h.2.2.1,h.2.2.2.1,rfl,rfl,rfl⟩
  |exact⟨_,_,_,h.2.2.2.2.2,h.1,h.2.1,h.2.2.1,h.2.2.2.1,h.2.2.2.2.1,rfl,rfl,rfl⟩
  |exact⟨_,_,_,h.2.2.2.2.2.2,h.1,h.2.1,h.2.2.1,h.2.2.2.1,h.2.2.2.2.1,h.2.2.2.2.2.1,rfl,rfl,rfl⟩
  | (obtain⟨j,h2,z⟩:=h
     revert z
     repeat' split
     all_goals intro h
     all_goals first
      |exact h.elim
      |exact⟨_,_,_,h.2.2,j,h2,h.1,h.2.1,rfl,rfl,rfl⟩
      |exact⟨_,_,_,h.2.2.2.2.2,j,h2,h.1,h.2.1,h.2.2.1,h.2.2.2.1,h.2.2.2.2.1,rfl,rfl,rfl⟩)
theorem aOD {P:Program} {st:St} {ch:List (Nat×Bool)} {B:Bool} {i:I} {K:V->aD->Nat->Prop} (h:oC P st ch B i K):
 ∃v S n,K v S n/\oC P st ch B i λa b c=>a=v/\b=S/\c=n:=by
 have Y:∀i,oC P st ch B i K->(∀K,oC P st ch B i K=gQ st.so i (bR st.sl ch) B λv=>K v st.so st.nx)->∃v S n,K v S n/\oC P st ch B i λa b c=>a=v/\b=S/\c=n:=by intro i h M;rw [M] at h;obtain⟨v,m,h2⟩:=aM0 h;exact⟨v,_,_,m,by rw [M];simpa using h2⟩
 have F:∀i,oC P st ch B i K->(∀K,oC P st ch B i K=mV st.sl st.so st.nx ch B i K)->∃v S n,K v S n/\oC P st ch B i λa b c=>a=v/\b=S/\c=n:=by
  intro i h M;rw [M] at h;unfold mV at h
  cases ch with
  |nil=> obtain⟨v,S,n,m,h2⟩:=aUV h;exact⟨v,S,n,m,by rw [M];exact h2⟩
  |cons g r=>
   cases B with
   |true=> obtain⟨v,S,n,m,h2⟩:=aUV (h.1 rfl);exact⟨v,S,n,m,by rw [M];exact⟨λ_=>h2,(by intro h;cases h)⟩⟩
   |false=>exact⟨_,_,_,h.2 rfl,by rw [M];exact⟨(by intro h;cases h),λ_=>⟨rfl,rfl,rfl⟩⟩⟩
 cases i with
 |pick c a b=>
  cases c with
  |c v=>exact Y _ h λ_=>rfl
  |t tc=>
   simp only [oC,dO] at h⊢;split at h
   ·split at h
    ·exact⟨_,_,_,h,rfl,rfl,rfl⟩
    ·split at h
     ·exact⟨_,_,_,h,rfl,rfl,rfl⟩
     ·exact⟨_,_,_,h,rfl,rfl,rfl⟩
   ·exact⟨_,_,_,h.2,h.1,rfl,rfl,rfl⟩
 |build z ps=>
  simp only [oC,dO] at h⊢;split at h
  ·rename_i cs Z;exact⟨_,_,_,h.2,h.1,rfl,rfl,rfl⟩
  ·exact h.elim
 |call f xs=>
  simp only [oC,dO] at h⊢;rcases h with ⟨j,m,h2,C⟩| ⟨G,H⟩| ⟨G,H⟩| ⟨G,H⟩
  ·exact⟨_,_,_,C,.inl ⟨j,m,h2,rfl,rfl,rfl⟩⟩
  ·cases B with
   |false=>exact⟨_,_,_,H rfl,.inr ⟨(λh=>by cases h),λ_=>⟨rfl,rfl,rfl⟩⟩⟩
   |true=> obtain⟨L,D,E,j,m,h2,C,h5,Q,R⟩:=G rfl;exact⟨_,_,_,R,.inr ⟨λ_=>⟨L,D,E,j,m,h2,C,h5,Q,rfl,rfl,rfl⟩,(λh=>by cases h)⟩⟩
  ·cases B with
   |false=>exact⟨_,_,_,H rfl,.frz ⟨(λh=>by cases h),λ_=>⟨rfl,rfl,rfl⟩⟩⟩
   |true=> obtain⟨O,j,m,h2,C⟩:=G rfl;exact⟨_,_,_,C,.frz ⟨λ_=>⟨O,j,m,h2,rfl,rfl,rfl⟩,(λh=>by cases h)⟩⟩
  ·cases B with
   |false=>exact⟨_,_,_,H rfl,.mov ⟨(λh=>by cases h),λ_=>⟨rfl,rfl,rfl⟩⟩⟩
   |true=> obtain⟨L,D,E,j,m,h2,C,h4,h5⟩:=G rfl;exact⟨_,_,_,h5,.mov ⟨λ_=>⟨L,D,E,j,m,h2,C,h4,rfl,rfl,rfl⟩,(λh=>by cases h)⟩⟩
 |vcall x xs=>
  simp only [oC,dO] at h⊢;split at h
  ·rename_i f W hx;obtain⟨J,h⟩:=h;rcases h with ⟨j,m,h2,C⟩| ⟨G,H⟩| ⟨G,H⟩| ⟨G,H⟩
   ·exact⟨_,_,_,C,J,.inl ⟨j,m,h2,rfl,rfl,rfl⟩⟩
   ·cases B with
    |false=>exact⟨_,_,_,H rfl,J,.inr ⟨(λh=>by cases h),λ_=>⟨rfl,rfl,rfl⟩⟩⟩
    |true=> obtain⟨L,D,E,j,m,h2,C,h5,Q,R⟩:=G rfl;exact⟨_,_,_,R,J,.inr ⟨λ_=>⟨L,D,E,j,m,h2,C,h5,Q,rfl,rfl,rfl⟩,(λh=>by cases h)⟩⟩
   ·cases B with
    |false=>exact⟨_,_,_,H rfl,J,.frz ⟨(λh=>by cases h),λ_=>⟨rfl,rfl,rfl⟩⟩⟩
    |true=> obtain⟨O,j,m,h2,C⟩:=G rfl;exact⟨_,_,_,C,J,.frz ⟨λ_=>⟨O,j,m,h2,rfl,rfl,rfl⟩,(λh=>by cases h)⟩⟩
   ·cases B with
    |false=>exact⟨_,_,_,H rfl,J,.mov ⟨(λh=>by cases h),λ_=>⟨rfl,rfl,rfl⟩⟩⟩
    |true=> obtain⟨L,D,E,j,m,h2,C,h4,h5⟩:=G rfl;exact⟨_,_,_,h5,J,.mov ⟨λ_=>⟨L,D,E,j,m,h2,C,h4,rfl,rfl,rfl⟩,(λh=>by cases h)⟩⟩
  ·exact⟨_,_,_,h.2,h.1,rfl,rfl,rfl⟩
 |clr a b c=>exact F _ h λ_=>rfl
 |alloc z=>exact F _ h λ_=>rfl
 |box z=>exact F _ h λ_=>rfl
 |st a b c=>exact F _ h λ_=>rfl
 |mkmap a=>exact F _ h λ_=>rfl
 |mput a b c=>exact F _ h λ_=>rfl
 |mputp a b c=>exact F _ h λ_=>rfl
 |bslice a b c d=>exact F _ h λ_=>rfl
 |mk a b c d e=>exact F _ h λ_=>rfl
 |app a b c d=>exact F _ h λ_=>rfl
 |cpy a b c=>exact F _ h λ_=>rfl
 |s2b a=>exact F _ h λ_=>rfl
 |aslc a b c=>exact F _ h λ_=>rfl
 |cpys a b=>exact F _ h λ_=>rfl
 |_=>exact Y _ h λ_=>rfl
def look(sl:bA):List Nat->bA
 | []=> []
 |d::r=>match eI sl d with
  |some s=>(d,s)::look sl r
  |none=>look sl r
theorem mP {sl:bA} :∀ {l:List Nat} {d:Nat} {s:SV},(d,s)∈look sl l->d∈l/\eI sl d=some s
 | [],_,_,h=>by simp [look] at h
 |a::r,d,s,h=>by
  simp only [look] at h;split at h
  ·rename_i q e;rcases List.mem_cons.1 h with h |h
   ·obtain⟨rfl,rfl⟩:=Prod.mk.inj h;exact⟨by simp,e⟩
   ·exact⟨zD _ (mP h).1,(mP h).2⟩
  ·exact⟨zD _ (mP h).1,(mP h).2⟩
def iT(S:aD):List Nat->aD
 | []=> []
 |k::r=>match S.get k with
  |some o=>(k,o)::iT S r
  |none=>iT S r
theorem kM {S:aD} :∀ {l:List Nat} {k:Nat},(iT S l).get k=if k∈l then S.get k else none
 | [],k=>by simp [iT,aD.get]
 |a::r,k=>by
  simp only [iT];split
  ·rename_i o e;simp only [aD.get]
   by_cases h:k=a
   ·subst h;simp [e]
   ·rw [if_neg h,kM];simp [h]
  ·rename_i e;rw [kM]
   by_cases h:k=a
   ·subst h;simp [e]
   ·simp [h]
theorem aEA {S e:aD} :∀ {l:List Nat},(∀k∈l,e.get k=S.get k)->iT e l=iT S l
 | [],_=>rfl
 |a::r,h=>by simp only [iT];rw [h a (by simp),aEA λd f=>h d (zD _ f)]
def aC0(S S1:aD):List Nat->aD
 | []=>S
 |k::r=>match S1.get k with
  |some o=>(aC0 S S1 r).set k o
  |none=>(aC0 S S1 r).del k
theorem oM {S S1:aD} :∀ {l:List Nat} {k:Nat},(aC0 S S1 l).get k=if k∈l then S1.get k else S.get k
 | [],k=>by simp [aC0]
 |a::r,k=>by
  simp only [aC0];split
  ·rename_i o e;rw [aD.get_set,oM]
   by_cases h:k=a
   ·subst h;simp [e]
   ·simp [h]
  ·rename_i e;rw [aD.get_del,oM]
   by_cases h:k=a
   ·subst h;simp [e]
   ·simp [h]
theorem aV.congr {U:Nat->Prop} {σ:Sg} {S f:aD} {w:World} {n:Nat} (h:∀k,f.get k=S.get k)(e:aV U σ S w n):aV U σ f w n:=by
 have E:∀b,Own U σ f b↔Own U σ S b:=λb=>by unfold Own fD;simp only [h]
 have B:∀b,fD σ f b↔fD σ S b:=λb=>by unfold fD;simp only [h]
 have m:Own U σ f=Own U σ S:=funext λb=>propext (E b)
 exact⟨λk o C=>by rw [m];exact e.obj k o (by rw [<-h];exact C),λk G o H b es cap z j D h2=>e.inj k G o H b es cap z j (by rw [<-h];exact D) (by rw [<-h];exact h2),
  λk C=>by rw [h];exact e.fresh k C,λb F=>e.disj b ((B b).1 F),e.ulim,by rw [m];exact e.gl⟩
theorem aV.wider {U:Nat->Prop} {σ:Sg} {S:aD} {w:World} {n f:Nat} (h:n<=f)(e:aV U σ S w n):aV U σ S w f:= ⟨e.obj,e.inj,λk j=>e.fresh k (by omega),e.disj,e.ulim,e.gl⟩
def Uf(U:Nat->Prop)(σ:Sg)(S:aD)(T:List Nat)(b:Nat):Prop:=U b\/∃k o es cap,k∉T/\S.get k=some o/\σ k=some (some b,es,cap)
section
variable {U:Nat->Prop} {σ:Sg} {S:aD} {w:World} {n:Nat} {T:List Nat}
theorem aQ8 {b:Nat} (h:Own (Uf U σ S T) σ (iT S T) b):Own U σ S b:=by
 rcases h with (f | ⟨k,o,es,cap,-,h2,e⟩)| ⟨k,o,es,cap,h2,e⟩
 ·exact .inl f
 ·exact .inr ⟨k,o,es,cap,h2,e⟩
 ·rw [kM] at h2;split at h2
  ·exact .inr ⟨k,o,es,cap,h2,e⟩
  ·cases h2
theorem lM.less {O O':Nat->Prop} (G:∀b,O' b->O b) {f:Option (Option Nat×Nat×Nat)} {o:Obj} (h:lM O w σ f o):lM O' w σ f o:=by
 have g0:∀ {σ x v},VR O w σ x v->VR O' w σ x v:=λh=>h.mono (cG.refl _ _) (λb _ H=>G b H) λ_ _=>rfl
 cases o with
 |row es xs=>
  obtain⟨J,h⟩:=h;refine⟨J,?_⟩;rcases f with _ | ⟨_ |b,F,cap⟩
  ·exact h
  ·exact h
  ·obtain⟨rfl,e1,e,D,j,m,z⟩:=h;refine⟨rfl,e1,e,D,j,m,λi x c y M C=>?_⟩;obtain⟨v,q1,q2,B⟩:=z i x c y M C;exact⟨v,q1,q2,g0 B⟩
 |box Q=> obtain⟨b,rfl,e,D,j,m,z⟩:=h;refine⟨b,rfl,e,D,j,m,λc y C=>?_⟩;obtain⟨v,q1,q2,B⟩:=z c y C;exact⟨v,q1,q2,g0 B⟩
 |mp xs=> obtain⟨b,rfl,es,E,j,m,z⟩:=h;refine⟨b,rfl,es,E,j,m,λi p K=>?_⟩;obtain⟨en,q1,q2,B⟩:=z i p K;exact⟨en,q1,q2,g0 B⟩
 |bb l=>exact h
theorem aV.part(j:aV U σ S w n)(T:List Nat):aV (Uf U σ S T) σ (iT S T) w n:=by
 have hg:∀k o,(iT S T).get k=some o->k∈T/\S.get k=some o:=λk o h=>by
  rw [kM] at h;split at h
  ·rename_i z;exact⟨z,h⟩
  ·cases h
 refine⟨λk o z=>(j.obj k o (hg k o z).2).less λb=>aQ8,λk B o C b es cap f e D h2=>j.inj k B o C b es cap f e (hg k o D).2 (hg B C h2).2,λk z=>⟨?_,(j.fresh k z).2⟩,λb F m=>?_,λb m=>?_,j.gl.less λb=>aQ8⟩
 ·rw [kM,(j.fresh k z).1];simp
 ·obtain⟨k,o,es,cap,D,h2⟩:=F;rcases m with m | ⟨B,C,f,e,E,h4,h5⟩
  ·exact j.disj b ⟨k,o,es,cap,(hg k o D).2,h2⟩ m
  ·obtain rfl:=j.inj k B o C b es cap f e (hg k o D).2 h4 h2 h5;exact E (hg k o D).1
 ·rcases m with m | ⟨B,C,f,e,E,h4,h5⟩
  ·exact j.ulim b m
  ·exact j.size ⟨B,C,f,e,h4,h5⟩
theorem aV.whole(Y:aV U σ S w n) {σ':Sg} {S1 S2:aD} {w':World} {R:Nat->Prop} (hT:∀k∈T,R k)(ac:∀k,R k->k∉T->S.get k=Option.none)(aa:∀k,R k->S2.get k=S1.get k)
 (Q:∀k,¬R k->S2.get k=S.get k/\σ' k=σ k/\S1.get k=Option.none) (g:bP σ (iT S T) w n σ' S1 w' n) (J:aV (Uf U σ S T) σ' S1 w' n):
 bP σ S w n σ' S2 w' n/\aV U σ' S2 w' n/\∀b,Own U σ' S2 b->Own (Uf U σ S T) σ' S1 b:=by
 have C:∀b,fD σ (iT S T) b->∃k o es cap,k∈T/\S.get k=some o/\σ k=some (some b,es,cap):=by
  rintro b ⟨k,o,es,cap,f,h2⟩;rw [kM] at f;split at f
  ·rename_i m;exact⟨k,o,es,cap,m,f,h2⟩
  ·cases f
 have e:∀k o,S2.get k=some o->(S.get k=some o/\k∉T/\σ' k=σ k)\/S1.get k=some o:=by
  intro k o m
  by_cases h:R k
  ·rw [aa k h] at m;exact .inr m
  ·obtain⟨f,h2,-⟩:=Q k h;rw [f] at m;exact .inl ⟨m,λhm=>h (hT k hm),h2⟩
 have g2:bP σ S w n σ' S2 w' n:=by
  refine⟨g.keep.wider λb Z=>by obtain⟨k,o,es,cap,-,h2,H⟩:=C b Z;exact⟨k,o,es,cap,h2,H⟩,λb Z hO=>?_,g.sg,zJ _⟩;obtain⟨k,o,es,cap,m,E⟩:=hO;rcases e k o m with ⟨f,-,h2⟩|f
  ·exact⟨k,o,es,cap,f,h2▸E⟩
  ·obtain⟨k,o,es,cap,-,h2,H⟩:=C b (g.own b Z ⟨k,o,es,cap,f,E⟩);exact⟨k,o,es,cap,h2,H⟩
 have W:∀b,Own U σ' S2 b->Own (Uf U σ S T) σ' S1 b:=by
  rintro b (hu | ⟨k,o,es,cap,m,E⟩)
  ·exact .inl (.inl hu)
  ·rcases e k o m with ⟨f,H,h2⟩|f
   ·exact .inl (.inr ⟨k,o,es,cap,H,f,h2▸E⟩)
   ·exact .inr ⟨k,o,es,cap,f,E⟩
 have F:∀b k o es cap,k∉T->S.get k=some o->σ k=some (some b,es,cap)->¬fD σ' S1 b:=by intro b k o es cap m f h2 hO;have Z:=Y.size ⟨k,o,es,cap,f,h2⟩;obtain⟨M,O,B,j,G,z,D⟩:=C b (g.own b Z hO);obtain rfl:=Y.inj k M o O b es cap B j f z h2 D;exact m G
 refine⟨g2,Y.step g2 (λk m=>?_) (λk M o O b es cap B j m G E K=>?_) (λk o m=>?_),W⟩
 ·refine⟨?_,(J.fresh k m).2⟩
  by_cases h:R k
  ·rw [aa k h];exact(J.fresh k m).1
  ·rw [(Q k h).1];exact(Y.fresh k m).1
 ·rcases e k o m with ⟨f,H,h2⟩|f <;> rcases e M O G with ⟨z,ab,D⟩|z
  ·exact Y.inj k M o O b es cap B j f z (h2▸E) (D▸K)
  ·exact absurd ⟨M,O,B,j,z,K⟩ (F b k o es cap H f (h2▸E))
  ·exact absurd ⟨k,o,es,cap,f,E⟩ (F b M O B j ab z (D▸K))
  ·exact J.inj k M o O b es cap B j f z E K
 ·rcases e k o m with ⟨f,H,h2⟩|f
  ·left;refine⟨f,λb es cap E=>g.keep.block b (Y.size ⟨k,o,es,cap,f,E⟩) λhO=>?_⟩;obtain⟨M,O,B,j,G,z,D⟩:=C b hO;obtain rfl:=Y.inj k M o O b es cap B j f z E D;exact H G
  ·right;exact(J.obj k o f).less W
end
end Go.Sk
namespace Go.Sk
open Go Go.RowKit
variable [gL]
structure Rec where
 m:Nat
 rd:List Nat
 cs:List Nat
 d:Option Nat
 s:SV
 T:List Nat
 ids:List Nat
 S1:aD
def bD6:V->List Nat
 | .ptr k _ _=> [k]
 | .sl k _ _=> [k]
 | .slx k _ _=> [k]
 | .slk k _ _ _=> [k]
 | .mp k=> [k]
 |_=> []
def aSW:List V->List Nat
 | []=> []
 |v::r=>bD6 v++aSW r
def qP:V->List Nat
 | .agg cs=>aSW cs
 | .fn _ cs=>aSW cs
 |v=>bD6 v
def aJK:bA->List Nat
 | []=> []
 | (_,s)::r=>qP s.v++aJK r
def bSN(i:I)(SL:bA):List Nat:=
 match i with
 | .mv _=> []
 | .faddr _ _=> []
 | .extr _ _=> []
 |_=>aJK SL
def bD7(S:aD):List Nat->List Nat
 | []=> []
 |k::r=>match S.get k with
  |some (.box cs)=>aSW cs++bD7 S r
  |_=>bD7 S r
def uD(i:I)(SL:bA)(S:aD):List Nat:=
 match i with
 | .call _ _=>aJK SL++bD7 S (aJK SL)
 | .vcall _ _=>aJK SL++bD7 S (aJK SL)
 |i=>bSN i SL
def aT:A->List Nat
 | .t n=> [n]
 | .c _=> []
def aTs:List A->List Nat
 | []=> []
 |a::r=>aT a++aTs r
def aPS:I->List Nat
 | .mv x=>aT x | .pick c a b=>aT c++aT a++aT b | .un _ x=>aT x | .bin _ x y=>aT x++aT y | .conv _ x=>aT x | .nilck x=>aT x | .faddr _ x=>aT x
 | .fget _ _ _ x=>aT x | .ld _ _ x=>aT x | .st _ x y=>aT x++aT y | .iaddr _ x i=>aT x++aT i | .iarr _ _ x i=>aT x++aT i | .aidx _ x i=>aT x++aT i
 | .slc _ x lo hi=>aT x++(match lo with |some l=>aT l |none=> [])++(match hi with |some l=>aT l |none=> [])
 | .eqb _ x y=>aT x++aT y | .eqs _ _ x y=>aT x++aT y
 | .len x=>aT x | .mx x y=>aT x++aT y | .mn x y=>aT x++aT y | .extr _ x=>aT x
 | .build _ ps=>aTs (ps.map λp=>p.2.2)
 | .alloc _=> [] | .box x=>aT x | .bslice _ _ _ ps=>aTs (ps.map λp=>p.2)| .mk _ _ _ l c=>aT l++aT c | .app _ _ x y=>aT x++aT y | .cpy _ x y=>aT x++aT y
 | .mkmap _=> [] | .mget _ _ x i=>aT x++aT i | .mput x i y=>aT x++aT i++aT y | .mgetp _ _ x i=>aT x++aT i | .mputp x i y=>aT x++aT i++aT y
 | .call _ xs=>aTs xs
 | .vcall x xs=>aT x++aTs xs
 | .clr _ _ x=>aT x
 | .slen x=>aT x | .sidx x i=>aT x++aT i | .scat x y=>aT x++aT y | .sqs _ x y=>aT x++aT y | .b2s x=>aT x | .s2b x=>aT x | .cpys x y=>aT x++aT y
 | .aslc _ x hi=>aT x++(match hi with |some l=>aT l |none=> [])
 | .ssl x lo hi=>aT x++(match lo with |some l=>aT l |none=> [])++(match hi with |some l=>aT l |none=> [])
 | .slc3 _ x lo hi mx=>aT x++(match lo with |some l=>aT l |none=> [])++aT hi++aT mx
 | .isnil _ x=>aT x
 | .mkfn _ xs=>aTs xs
 | .bad=> []
def gsl:Option (Nat×Bool)->List Nat
 |none=> []
 |some (g,_)=> [g]
def chT:List (Nat×Bool)->List Nat
 | []=> []
 | (g,_)::r=>g::chT r
def chs:bA->List Nat
 | []=> []
 | (_,s)::r=>chT s.ch++chs r
def wrI(SL:bA)(T:List Nat)(m n1:Nat):I->List Nat
 | .st _ x _=>qP (bR SL [] x)
 | .cpy _ x _=>qP (bR SL [] x)
 | .clr _ _ x=>qP (bR SL [] x)
 | .mput x _ _=>qP (bR SL [] x)
 | .mputp x _ _=>qP (bR SL [] x)
 | .cpys x _=>qP (bR SL [] x)
 | .aslc _ x _=>qP (bR SL [] x)
 | .call f _=>match Nat.beq n1 m with
   |true=> []
   |false=>match jB f gL.ro with
    |true=> []
    |false=>T
 |_=>match Nat.beq n1 m with
  |true=> []
  |false=>T
def aHM(m:Nat):aD->List Nat
 | []=> []
 | (k,_)::r=>match Nat.ble m k with
   |true=>k::aHM m r
   |false=>aHM m r
def aD8(T:List Nat)(m:Nat):aD->Bool
 | []=>true
 | (k,_)::r=>(jB k T||(Nat.ble m k&&Nat.blt k (m+16)))&&aD8 T m r
def qY:Option Nat->List Nat->Bool
 |none,_=>true
 |some d,l=> !jB d l
def aKA(SO S1:aD)(W:List Nat):List Nat->Prop
 | []=>True
 |k::r=>match jB k W with
  |true=>aKA SO S1 W r
  |false=>S1.get k=SO.get k/\aKA SO S1 W r
def aEQ(SO S1:aD)(W:List Nat)(K:Prop):List Nat->Prop
 | []=>K
 |k::r=>match jB k W with
  |true=>aEQ SO S1 W K r
  |false=>S1.get k=SO.get k/\aEQ SO S1 W K r
theorem sM {e S1:aD} {W:List Nat} {K:Prop} :∀ {T:List Nat},aEQ e S1 W K T->aKA e S1 W T/\K
 | [],h=>⟨trivial,h⟩
 |k::r,h=>by
  simp only [aEQ,aKA] at h⊢;split at h
  ·exact sM h
  ·exact⟨⟨h.1,(sM h.2).1⟩,(sM h.2).2⟩
def aGD(n:Nat):List Nat->Bool
 | []=>true
 |k::r=>Nat.blt k n&&aGD n r
def aIZ:List Nat->List Nat->Bool
 | [],_=>true
 |k::r,l=>jB k l&&aIZ r l
def aJB:List Nat->List Nat->Bool
 | [],_=>true
 |k::r,l=> !jB k l&&aJB r l
def aGH(m:Nat):List Nat->Bool
 | []=>true
 |k::r=>(Nat.blt k m||Nat.ble (m+16) k)&&aGH m r
def aGQ(P:Program):St->Nat->Option Nat->Option (Nat×Bool)->I->(Rec->St->Prop)->Prop
 | ⟨ssl,sso,snx⟩,m,d,g,i,K=>
 dI (gsl g++aPS i) λrds=>rX (look ssl rds) λSL=>rY SL g λch gc=>dI (uD i SL sso) λT=>dN (iT sso T) λSO=>dI (gsl g++chs SL) λG=>
  dO P SL SO m ch gc i λv S1 n1=>oB v λv=>dN S1 λS1=>dI (wrI SL T m n1 i) λW=>dI (W++aHM m S1) λids=>
   (aD8 T m S1&&(qY d G&&(aGD (m+16) ids&&(aIZ W T&&(aIZ (chT ch) G&&(aGH m T&&Nat.ble n1 (m+16)))))))=true/\aEQ SO S1 W
   (aC3 ssl d ⟨ch,gc,v⟩ λsl=>dN (aC0 sso S1 ids) λso=>K ⟨m,rds++G,chT ch,d,⟨ch,gc,v⟩,T,ids,S1⟩ ⟨sl,so,snx⟩) T
def nY(P:Program):List iZ->List Nat->St->(List Rec->St->Prop)->Prop
 | [],[],st,K=>K [] st
 | ⟨d,g,i⟩::r,m::ms,st,K=>aGQ P st m d g i λrc st'=>nY P r ms st' λrs st''=>K (rc::rs) st''
 |_,_,_,_=>False
def indep(r r':Rec):Bool:= qY r.d r'.rd&&(qY r'.d r.rd&&((match r.d,r'.d with |some a,some b=> !Nat.beq a b |_,_=>true)&&(aJB r.ids r'.T&&(aJB r.ids r'.ids&&(aJB r'.ids r.T&&aGH r.m r'.ids)))))
def aFM(r:Rec)(i:Nat):List Rec->List (List Nat)->Bool
 |r'::rs,a::an=>(bif jB i a then qY r'.d r.cs else indep r r')&&aFM r i rs an
 |_,_=>true
def nX:List Rec->List (List Nat)->Nat->Bool
 |r::rs,_::an,i=>aFM r i rs an&&nX rs an (i+1)
 |_,_,_=>true
theorem aGY {d:Nat} {l:List Nat} (h:(!jB d l)=true):d∉l:=λe=>by rw [hY.2 e] at h;simp at h
theorem oK {d:Option Nat} {l:List Nat} (h:qY d l=true):∀x∈l,d≠some x:=by intro x f e;subst e;exact aGY h f
theorem aAH {n:Nat} :∀ {l:List Nat},aGD n l=true->∀k∈l,k<n
 | [],_,k,h=>by simp at h
 |a::r,h,k,e=>by
  simp only [aGD,zF] at h;rcases List.mem_cons.1 e with rfl |e
  ·exact zC h.1
  ·exact aAH h.2 k e
theorem nQ:∀ {l l':List Nat},aIZ l l'=true->∀k∈l,k∈l'
 | [],_,_,k,h=>by simp at h
 |a::r,l',h,k,e=>by
  simp only [aIZ,zF] at h;rcases List.mem_cons.1 e with rfl |e
  ·exact hY.1 h.1
  ·exact nQ h.2 k e
theorem rT:∀ {l l':List Nat},aJB l l'=true->∀k∈l,k∉l'
 | [],_,_,k,h=>by simp at h
 |a::r,l',h,k,e=>by
  simp only [aJB,zF] at h;rcases List.mem_cons.1 e with rfl |e
  ·exact aGY h.1
  ·exact rT h.2 k e
theorem aAJ {m:Nat} :∀ {l:List Nat},aGH m l=true->∀k∈l,¬(m<=k/\k<m+16)
 | [],_,k,h=>by simp at h
 |a::r,h,k,e=>by
  simp only [aGH,zF,zN] at h;rcases List.mem_cons.1 e with rfl |e
  ·rcases h.1 with h |h
   ·have :=zC h;omega
   ·have :=zC h;omega
  ·exact aAJ h.2 k e
theorem pG {T:List Nat} {m:Nat} :∀ {S:aD},aD8 T m S=true->∀k o,S.get k=some o->k∈T\/(m<=k/\k<m+16)
 | [],_,k,o,h=>by simp [aD.get] at h
 | (j,p)::r,h,k,o,e=>by
   simp only [aD8,zF,zN] at h;simp only [aD.get] at e;split at e
   ·rename_i z;subst z;rcases h.1 with h | ⟨f,h2⟩
    ·exact .inl (hY.1 h)
    ·exact .inr ⟨zC f,zC h2⟩
   ·exact pG h.2 k o e
theorem qX {m:Nat} :∀ {S:aD} {k:Nat},k∈aHM m S↔m<=k/\∃o,S.get k=some o
 | [],k=>by simp [aHM,aD.get]
 | (j,p)::r,k=>by
   simp only [aHM,aD.get];split
   ·rename_i e;have :=zC e;rw [List.mem_cons,qX]
    by_cases h:k=j
    ·subst h;simp [this]
    ·simp [h]
   ·rename_i e;rw [qX]
    by_cases h:k=j
    ·subst h;have :¬m<=k:=λf=>by rw [Nat.ble_eq_true_of_le f] at e;cases e
     simp [this]
    ·simp [h]
theorem aAY {j S1:aD} {W:List Nat} :∀ {T:List Nat},aKA j S1 W T->∀k∈T,k∉W->S1.get k=j.get k
 | [],_,k,h,_=>by simp at h
 |a::r,h,k,e,f=>by
  simp only [aKA] at h;split at h
  ·rename_i m;rcases List.mem_cons.1 e with rfl |e
   ·exact absurd (hY.1 m) f
   ·exact aAY h k e f
  ·rcases List.mem_cons.1 e with rfl |e
   ·exact h.1
   ·exact aAY h.2 k e f
theorem aBP {x:Nat×Bool} :∀ {l:List (Nat×Bool)},x∈l->x.1∈chT l
 | (g,b)::r,h=>by
   rcases List.mem_cons.1 h with rfl |h
   ·simp [chT]
   ·exact zD _ (aBP h)
theorem aT2 {p:Nat×SV} :∀ {l:bA},p∈l->∀x∈p.2.ch,x.1∈chs l
 | (d,s)::r,h,x,e=>by
   simp only [chs,List.mem_append];rcases List.mem_cons.1 h with rfl |h
   ·exact .inl (aBP e)
   ·exact .inr (aT2 h x e)
structure aIQ [qE](U:Nat->Prop)(N:Nat)(σ:Sg)(gs:Nat->Option SV)(S:aD)(n:Nat)(act:Act)(w:World):Prop where
 rel:aV U σ S w n
 sz:act.tmps.size=N
 df:act.defers=qE.ds
 sl:∀d s,gs d=some s->SVR (Own U σ S) w σ act.tmps s (act.tmps.getD d undef)
theorem aYQ {l:bA} {d:Nat} {s:SV} :∀t,eI (aFD l d s) t=if t=d then some s else eI l t:=by
 have f:∀(l:bA) (t:Nat),t≠d->eI (aIS l d) t=eI l t:=by
  intro l t e
  induction l with
  |nil=>rfl
  |cons p r m=>
   obtain⟨j,q⟩:=p;simp only [aIS,eI];split
   ·rename_i h;subst h;rw [if_neg e];exact m
   ·simp only [eI,m]
 induction l with
 |nil=>intro t;simp only [aFD,eI]
 |cons p r m=>
  obtain⟨j,q⟩:=p;intro t;simp only [aFD];split
  ·rename_i h;subst h;simp only [eI]
   by_cases e:t=d
   ·simp [e]
   ·rw [if_neg e,if_neg e,if_neg e];exact f r t e
  ·rename_i h;simp only [eI,m]
   by_cases e:t=j
   ·subst e;rw [if_pos rfl,if_pos rfl,if_neg (Ne.symm h)]
   ·rw [if_neg e,if_neg e]
theorem aO6 {l:bA} {d:Option Nat} {s:SV} (t:Nat):eI (tE l d s) t=if d=some t then some s else eI l t:=by
 cases d with
 |none=>simp [tE]
 |some d=>
  simp only [tE,aYQ,zse]
  by_cases h:t=d
  ·rw [if_pos h,if_pos h.symm]
  ·rw [if_neg h,if_neg (Ne.symm h)]
def Loc [qE](P:Program)(N:Nat)(n:Nat)(ops:Array Oper)(o:Oper)(r:Rec)(SL:bA)(SO:aD):Prop:=
 ∀(U:Nat->Prop) (σ:Sg) (gs:Nat->Option SV) (S:aD) (act:Act) (w:World) (next:Act->World->Prop) (Q:Exit->Act->World->Prop),aIQ U N σ gs S n act w->(∀d s,(d,s)∈SL->gs d=some s)->iT S r.T=SO->
  (∀i,i<16->S.get (r.m+i)=none/\σ (r.m+i)=none)->(∀t s,gs t=some s->∀x∈s.ch,r.d≠some x.1)->
  (∀σ' cv w',aIQ U N σ' (λt=>if r.d=some t then some r.s else gs t) (aC0 S r.S1 r.ids) n (act.put r.d cv) w'->bP σ S w n σ' (aC0 S r.S1 r.ids) w' n->(∀k,¬(r.m<=k/\k<r.m+16)->σ' k=σ k)->next (act.put r.d cv) w')->
  if Region.wanted o (yielded ops act.tmps) then o.wp P act w next Q else next (act.put o.dst undef) w
structure aS8(r:Rec)(m0:Nat):Prop where
 m:r.m=m0
 ids:∀k∈r.ids,k<m0+16
 ids':∀k∈r.ids,k∈r.T\/(m0<=k/\k<m0+16)
 cs:∀x∈r.s.ch,x.1∈r.cs/\x.1∈r.rd
section
variable {P:Program} {N n:Nat}
theorem aVI [qE] {st:St} {m:Nat} {d:Option Nat} {g:Option (Nat×Bool)} {i:I} {K:Rec->St->Prop} (h:aGQ P st m d g i K) {ops:Array Oper} {o:Oper} (hi:aWL P o.op=some i)(hg:aWK ops N o.guard=some g)(hd:aWJ N o.dst=some d)(hn:m+16<=n):
 ∃r,K r ⟨tE st.sl r.d r.s,aC0 st.so r.S1 r.ids,st.nx⟩/\r.d=d/\aS8 r m/\∃z,(∀d s,(d,s)∈z->d∈r.rd/\eI st.sl d=some s)/\Loc P N n ops o r z (iT st.so r.T):=by
 obtain⟨ssl,j,az⟩:=st;simp only [aGQ,fZ,oA,nK] at h;simp only;obtain⟨z,ai⟩:∃z,z=look ssl (gsl g++aPS i):=⟨_,rfl⟩;rw [<-ai] at h;split at h
 ·exact h.elim
 ·rename_i ch gc ao;obtain⟨SO,aj⟩:∃SO,SO=iT j (uD i z j):=⟨_,rfl⟩;simp only [eU] at h;rw [<-aj] at h;obtain⟨v,S1,n1,h1,h2⟩:=aOD (st:=⟨z,SO,m⟩) h;simp only [jA,eU,fZ,rF,zF] at h1;obtain⟨⟨k1,k2,k3,k4,k5,k6,k7⟩,av⟩:=h1;obtain⟨ag,hK⟩:=sM av;have ay:=zC k7;refine⟨_,hK,rfl,⟨rfl,aAH k3,λk f=>?_,λx Y=>⟨aBP Y,zP _ (nQ k5 _ (aBP Y))⟩⟩,z,λd s M=>?_,?_⟩
  ·rcases List.mem_append.1 f with f |f
   ·exact .inl (nQ k4 k f)
   ·obtain⟨ap,o,ho⟩:=qX.1 f;exact pG k1 k o ho
  ·subst ai;exact⟨List.mem_append_left _ (mP M).1,(mP M).2⟩
  ·
   rw [<-aj];intro U σ gs S act w next Q hrel aw D C ak O;have W:=hrel.rel.part (uD i z j);simp only at D C ak O;rw [D] at W
   have ae:bJ (Uf U σ S (uD i z j)) N σ ⟨z,SO,n⟩ act w:=by
    refine⟨W,hrel.sz,hrel.df,λt s M=>?_⟩;have :=hrel.sl t s (aw t s M);have ab:∀ {x v},VR (Own U σ S) w σ x v->VR (Own (Uf U σ S (uD i z j)) σ SO) w σ x v:=λh=>h.mono (cG.refl _ _) (λb _ hb=>aQ8 (T:=uD i z j) (by rw [D];exact hb)) λ_ _=>rfl;unfold SVR at this⊢;split
    ·rename_i J;rw [J] at this;exact ab this
    ·rename_i gg r J;rw [J] at this;exact⟨this.1,λhh=>⟨(this.2.1 hh).1,ab (this.2.1 hh).2⟩,this.2.2⟩
   have au:∀x∈ch,x.1∈gsl g++chs z:=λx Y=>nQ k5 _ (aBP Y);refine aBL (P:=P) ae (m:=m) (show m<=n by omega) (λi hi=>⟨?_,(C i hi).2⟩) hi hg hd ao (G:=gsl g++chs z) (λd s M x Y=>zP _ (aT2 M x Y)) (λd' Z M=>oK k2 d' M Z) au h2 ?_
   ·rw [<-D,kM,(C i hi).1];simp
   ·rintro σ' v' E aa cv w' ⟨rfl,rfl,rfl⟩ ax H gr-hσ;have ar:max n aa=n:=by omega
    simp only at H gr;rw [ar] at H gr
    have hR:∀k,k∈(wrI z (uD i z j) m aa i++aHM m E)->k∈uD i z j\/(m<=k/\k<m+16):=λk f=>by
     rcases List.mem_append.1 f with f |f
     ·exact .inl (nQ k4 k f)
     ·obtain⟨ap,o,ho⟩:=qX.1 f;exact pG k1 k o ho
    have hw:=hrel.rel.whole (T:=uD i z j) (σ':=σ') (S1:=E) (S2:=aC0 S E (wrI z (uD i z j) m aa i++aHM m E)) (w':=w') (R:=λk=>k∈uD i z j\/(m<=k/\k<m+16)) (λk f=>.inl f)
     (λk f hn=>by
      rcases f with f |f
      ·exact absurd f hn
      ·have :=(C (k-m) (by omega)).1;rwa [show m+(k-m)=k by omega] at this)
     (λk f=>by
      rw [oM];split
      ·rfl
      ·rename_i ad;simp only [List.mem_append,not_or] at ad
       by_cases hT:k∈uD i z j
       ·rw [aAY ag k hT ad.1,<-D,kM,if_pos hT]
       ·rcases f with f |f
        ·exact absurd f hT
        ·have h0:=(C (k-m) (by omega)).1;rw [show m+(k-m)=k by omega] at h0;rw [h0]
         cases af:E.get k with
         |none=>rfl
         |some o=>exact absurd (qX.2 ⟨f.1,o,af⟩) ad.2)
     (λk f=>by
      refine⟨by rw [oM,if_neg λM=>f (hR k M)],?_,?_⟩
      ·simp only [not_or] at f;exact hσ k f.2
      ·cases af:E.get k with
       |none=>rfl
       |some o=>exact absurd (pG k1 k o af) f)
     (by rw [D];exact gr) H.rel
    obtain⟨g2,r2,o2⟩:=hw;refine O σ' cv w' ⟨r2,H.sz,H.df,λt s ht=>?_⟩ g2 hσ
    have al:∀d',d=some d'->d'<N:=λd' Z=>by
     unfold aWJ at hd;split at hd
     ·obtain rfl:=zsi hd;cases Z
     ·split at hd
      ·rename_i aq;obtain rfl:=zsi hd;obtain rfl:=zsi Z;exact aq
      ·cases hd
    split at ht
    ·rename_i ah;obtain rfl:=zsi ht;have M:(t,(⟨ch,gc,v'⟩:SV))∈tE z d ⟨ch,gc,v'⟩:=by rw [ah];exact gZ (by rw [aO6,if_pos rfl])
     have :=H.sl t _ M;have ac:∀ {x v},VR (Own (Uf U σ S (uD i z j)) σ' E) w' σ' x v->VR (Own U σ' (aC0 S E (wrI z (uD i z j) m aa i++aHM m E))) w' σ' x v:=λh=>h.mono (cG.refl _ _) (λb _ hb=>o2 b hb) λ_ _=>rfl;unfold SVR at this⊢;split
     ·rename_i J;rw [J] at this;exact ac this
     ·rename_i gg r J;rw [J] at this;exact⟨this.1,λhh=>⟨(this.2.1 hh).1,ac (this.2.1 hh).2⟩,this.2.2⟩
    ·rename_i ah;have B:=hrel.sl t s ht
     have am:(act.put d cv).tmps.getD t undef=act.tmps.getD t undef:=by
      cases d with
      |none=>rfl
      |some d=>rw [mR (by rw [hrel.sz];exact al d rfl),if_neg (λe=>ah (by rw [e]))]
     have F:∀x∈s.ch,(holds (act.put d cv).tmps x↔holds act.tmps x):=λx Y=>by
      have :=ak t s ht x Y
      cases d with
      |none=>exact Iff.rfl
      |some d=> unfold holds;rw [mR (by rw [hrel.sz];exact al d rfl),if_neg (λe=>this (by rw [e]))]
     rw [am];unfold SVR at B⊢;split
     ·rename_i J;rw [J] at B;exact B.grow g2
     ·rename_i gg r J;rw [J] at B F;exact⟨λhh=>B.1 ((F gg (by simp)).1 hh),λhh=>⟨λx Y=>(F x Y).2 ((B.2.1 hh).1 x Y),(B.2.1 hh).2.grow g2⟩,B.2.2⟩
end
end Go.Sk
