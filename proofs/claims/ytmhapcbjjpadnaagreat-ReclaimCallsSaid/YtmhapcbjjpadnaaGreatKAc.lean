/- Caches. -/
import Derived.Test.YtmhapcbjjpadnaaGreatK9c
import Derived.Test.YtmhapcbjjpadnaaGreatK7c
set_option linter.all false
open Array renaming getD_eq_getD_getElem?→zA,getElem?_append_left→zD,replicate→zI,getElem?_eq_getElem→zK,length_toList→zL
open List renaming mem_of_getElem?→zF,mem_cons_of_mem→zH,mem_cons_self→zJ
open Nat renaming lt_of_lt_of_le→zC,le_of_ble_eq_true→zE,lt_of_not_le→zG,le_trans→zM,blt→zN
namespace Go.Sk
open Go Go.RowKit
variable [gL]
section
variable {w:World}
theorem qT(l:Nat)(o:Go.Obj):cG (λb=>b=l) w (w.putObj l o):=⟨rfl,rfl,rfl,by simp,λb f e=>World.putObj_heap_other e⟩
theorem cU.compR {O0 B:Nat->Prop} {σ0 z G σ:Sg} {S1 S:aD} {w0 F w:World} {n0 E J m:Nat} (h:cU O0 σ0 w0 n0 z S1 F J)(e:∀k,σ0 k≠none->G k=z k)(H:n0<=E)(g:cU (λb=>B b\/fD z S1 b) G F E σ S w m)(D:∀b,b<w0.heap.size->B b->O0 b):cU O0 σ0 w0 n0 σ S w m:= ⟨h.keep.trans g.keep λb e j=>j.elim (D b e) (h.own b e),λb e j=>(g.own b (zC e h.keep.size) j).elim (D b e) (h.own b e),λk f=>(g.sg k (by rw [e k f,h.sg k f];exact f)).trans ((e k f).trans (h.sg k f)),zM H g.nx⟩
theorem cU.comp {O0 f:Nat->Prop} {σ0 e σ:Sg} {S1 S:aD} {w0 z w:World} {n0 j m:Nat} (h:cU O0 σ0 w0 n0 e S1 z j)(g:cU (λb=>f b\/fD e S1 b) e z j σ S w m)(B:∀b,b<w0.heap.size->f b->O0 b):cU O0 σ0 w0 n0 σ S w m:= h.compR (λ_ _=>rfl) h.nx g B
def aIA(n:Nat)(σ:Sg):Sg:=λk=>if k<n then σ k else none
theorem rG {n:Nat} {σ:Sg} {k:Nat} (h:k<n):aIA n σ k=σ k:=if_pos h
theorem aK4 {n:Nat} {σ:Sg} {k:Nat} (h:n<=k):aIA n σ k=none:=if_neg (by omega)
def aPD(n:Nat):V->Bool
 | .ptr k _ _=>zN k n
 | .sl k _ _=>zN k n
 | .slx k _ _=>zN k n
 | .slk k _ _ _=>zN k n
 | .mp k=>zN k n
 | .agg _=>false
 | .tup _=>false
 | .fn _ _=>false
 |_=>true
def bAZ(n:Nat):V->Bool
 | .agg cs=>cs.all (aPD n)
 | .tup cs=>cs.all (aPD n)
 | .fn _ cs=>cs.all (aPD n)
 |v=>aPD n v
theorem aI5 {n:Nat} {x:V} {k:Nat} (h:aPD n x=true)(r:Refs x k):k<n:=by
 cases r <;> first |exact of_decide_eq_true h |exact zE h |cases h
theorem aFY {n:Nat} {x:V} {k:Nat} (h:bAZ n x=true)(r:Refs x k):k<n:=by
 cases r with
 |agg e f=>exact aI5 (List.all_eq_true.1 h _ (zF e)) f
 |tup e f=>exact aI5 (List.all_eq_true.1 h _ (zF e)) f
 |fn e f=>exact aI5 (List.all_eq_true.1 h _ (zF e)) f
 |_=>exact zE h
theorem cU.putl {O0:Nat->Prop} {σ0 σ:Sg} {S:aD} {w0 w:World} {n0 m l:Nat} (h:cU O0 σ0 w0 n0 σ S w m)(f:O0 l)(o:Go.Obj):cU O0 σ0 w0 n0 σ S (w.putObj l o) m:= ⟨h.keep.trans (qT l o) λb _ e=>e▸f,h.own,h.sg,h.nx⟩
end
def bIN:Ex->Code
 | .normal=>.skip
 | .exit id=>.exit id
 | .ret=>.ret
def aR3(rec:LoopState->Option Code->Loop):Option Ex->Loop
 |none=>rec .ready none
 |some e=>rec .done (some (bIN e))
def aRD:bA->List Nat->List V->bA
 |sl,p::ps,v::vs=>aRD (aFD sl p ⟨[],true,v⟩) ps vs
 |sl,_,_=>sl
section
variable {P:Program} {Γ:Type}
structure Cy.Under(C2 C:Cy P Γ):Prop where
 X:∀b,C.X b->C2.X b
 U0:∀b,C.U0 b->C2.U0 b
 U0':∀b,C2.U0 b->C.U0 b\/C.w0.heap.size<=b
 sz:C.w0.heap.size<=C2.w0.heap.size
 Bk:∀π w,C2.Bk π w->C.Bk π w
 back:∀π π' w w',C2.Bk π w->C.Bk π' w'->(∀b,C2.U0 b->¬C.X b->w'.heap[b]? =w.heap[b]?)->C2.Bk π' w'
 base:∀σ S w m,cU C2.O0 C2.σ0 C2.w0 C2.n0 σ S w m->cU C.O0 C.σ0 C.w0 C.n0 σ S w m
theorem kV.under {M C:Cy P Γ} {l:Nat} {O:Rnd Γ} (h:kV C l O)(u:M.Under C):kV M l O:=by
 intro rd n U F π vs σ S m w j K G W z hs hv Y;obtain⟨fn,E,f,B,T,h2⟩:=h rd n U ⟨λb z=>F.1 b (u.U0 b z),λb z=>(F.2 b z).elim (u.U0' b) λh=>.inr (zM u.sz h)⟩ π vs σ S m w j K G (u.base _ _ _ _ W) (u.Bk π w z) hs hv Y;refine⟨fn,E,f,B,T,h2.mono ?_⟩;rintro e w' ⟨b,Q,σ',R,m',he,hk,H,D,J⟩
 exact⟨b,Q,σ',R,m',he,hk,H,⟨D.keep.wider λb=>Or.imp (u.X b) id,D.own,D.sg,D.nx⟩,u.back π Q w w' z J λb h2 hx=>D.keep.block b (G.ulim b (F.1 b h2)) λZ=>Z.elim hx λZ=>G.disj b Z (F.1 b h2)⟩
def bSP(C:Cy P Γ)(n l:Nat)(rec:LoopState->Option Code->Loop)(Ue:Nat->Prop)(σ1:Sg)(S1:aD)(w1:World)(n1:Nat)(hX:∀b,C.X b->Ue b)(hl:Ue l)(σb:Sg)(hz:∀k,n1<=k->σb k=none):Cy P (Γ×Option Ex) where
 rd:=none
 n:=n
 U0:=Ue
 X:=λb=>C.X b\/b=l
 Bk:=λq w=>C.Bk q.1 w/\w.heap[l]? =some (.loop (aR3 rec q.2))
 O0:=λb=>(C.X b\/b=l)\/fD σ1 S1 b
 σ0:=σb
 w0:=w1
 n0:=n1
 hX:=λb h=>h.elim (hX b) λe=>e▸hl
 hXO:=λb h=>.inl h
 hBk:=λq w w' h hb=>⟨C.hBk q.1 w w' (λb hb=>h b (.inl hb)) hb.1,(h l (.inr rfl)).trans hb.2⟩
 hz:=hz
def bTW(C:Cy P Γ)(n l:Nat)(r:Loop)(Ue:Nat->Prop)(σ1:Sg)(S1:aD)(w1:World)(n1:Nat)(hX:∀b,C.X b->Ue b)(hl:Ue l)(hz:∀k,n1<=k->σ1 k=none):Cy P Γ where
 rd:=some l
 n:=n
 U0:=Ue
 X:=λb=>C.X b\/b=l
 Bk:=λq w=>C.Bk q w/\w.heap[l]? =some (.loop r)
 O0:=λb=>(C.X b\/b=l)\/fD σ1 S1 b
 σ0:=σ1
 w0:=w1
 n0:=n1
 hX:=λb h=>h.elim (hX b) λe=>e▸hl
 hXO:=λb h=>.inl h
 hBk:=λq w w' h hb=>⟨C.hBk q w w' (λb hb=>h b (.inl hb)) hb.1,(h l (.inr rfl)).trans hb.2⟩
 hz:=hz
def bB3(sl1:bA)(ps:List Nat)(Ha Hb:Nat->sZ Γ):Rnd (Γ×Option Ex):=λq vs S m KY=>q.2=none/\vs.length=ps.length/\Ha m q.1 ⟨aRD sl1 ps vs,S,m⟩ λe π1 st1=>e=.normal/\Hb m π1 st1 λe π2 st2=>match e with
 | .normal=>KY true (π2,none) st2.so st2.nx
 | .exit id=>KY false (π2,some (.exit id)) st2.so st2.nx
 | .ret=>KY false (π2,some .ret) st2.so st2.nx
theorem aHZ {O:Nat->Prop} {w:World} {σ:Sg} {N:Nat} :∀(ps:List Nat) (vs:List V) (cs:List Value) (sl:bA) (e:Array Value),vs.length=ps.length->cs.length=vs.length->e.size=N->(∀p∈ps,p<N)->
 (∀(i:Nat) v c,vs[i]? =some v->cs[i]? =some c->VR O w σ v c)->(∀d s,(d,s)∈sl->s.ch=[]/\VR O w σ s.v (e.getD d undef))->
 ((ps.zip cs).foldl (λt (p:Nat×Value)=>t.setIfInBounds p.1 p.2) e).size=N/\∀d s,(d,s)∈aRD sl ps vs->s.ch=[]/\VR O w σ s.v (((ps.zip cs).foldl (λt (p:Nat×Value)=>t.setIfInBounds p.1 p.2) e).getD d undef)
 | [],_,_,sl,e,_,_,j,_,_,B=>⟨by simpa using j,by cases ‹List V› <;> simpa [aRD] using B⟩
 |p::ps,[],_,_,_,h,_,_,_,_,_=>by simp at h
 |p::ps,v::vs,[],_,_,_,h,_,_,_,_=>by simp at h
 |p::ps,v::vs,c::cs,sl,e,E,h2,j,D,hv,B=>by
  have z:p<e.size:=by rw [j];exact D p zJ
  simp only [List.zip_cons_cons,List.foldl_cons,aRD];refine aHZ ps vs cs _ _ (by simpa using E) (by simpa using h2) (by simpa using j) (λq H=>D q (zH _ H)) (λi a b F G=>hv (i+1) a b (by simpa using F) (by simpa using G)) λd s f=>?_;rcases qW f with f | ⟨m,f⟩
  ·obtain⟨rfl,rfl⟩:=Prod.mk.inj f;refine⟨rfl,?_⟩;rw [zA,Array.getElem?_setIfInBounds_self_of_lt z];exact hv 0 v c rfl rfl
  ·obtain⟨k1,k2⟩:=B d s f;refine⟨k1,?_⟩;rw [zA,Array.getElem?_setIfInBounds_ne (Ne.symm m),<-zA];exact k2
end
end Go.Sk
namespace Go.Sk
open Go Go.RowKit
variable [gL]
section
variable {P:Program} {Γ:Type}
def nB(fn:FuncId)(tm:Array Value)(ps:Array Tmp)(assign body:Code)(dd:Nat)(st:LoopState)(pe:Option Code):Loop:= { state:=st,pending:=pe,fn,tmps:=tm,params:=ps,assign,body,defers:=dd }
theorem bB4 {C:Cy P Γ} {N n l dd:Nat} {fn:FuncId} {f j:Code} {ps:Array Tmp} {F:Array Value} {Ue:Nat->Prop} {σ1:Sg} {S1:aD} {w1:World} {n1:Nat} {J:bA} {Ha Hb:Nat->sZ Γ}
 {m1:Nat} (hX:∀b,C.X b->Ue b) (hl:Ue l) (au:C.n0<=n1) (ah:¬C.X l) (bn:C.w0.heap.size<=l) (a1:∀b,C.U0 b->Ue b) (aq:∀b,Ue b->C.U0 b\/C.w0.heap.size<=b) (aj:cU C.O0 C.σ0 C.w0 C.n0 σ1 S1 w1 m1)
 (bc:F.size=N) (a6:∀p∈ps.toList,p<N) (a9:∀d s,(d,s)∈J->s.ch=[]/\VR (Own Ue σ1 S1) w1 σ1 s.v (F.getD d undef)) (ab:∀d s,(d,s)∈J->bAZ n1 s.v=true)
 (ha:∀C2:Cy P Γ,C2.Under C->aJ C2 N f (Ha C2.n0)) (B:∀C2:Cy P Γ,C2.Under C->aJ C2 N j (Hb C2.n0)):
 kV (bSP C n l (nB fn F ps f j dd) Ue σ1 S1 w1 n1 hX hl (aIA n1 σ1) λ_ G=>aK4 G) l (bB3 J ps.toList Ha Hb):=by
 rintro rd n' U hU ⟨π,p⟩ vs σ S m w z K hR hG ⟨hC,hL⟩ hs hv ⟨hp,aa,hA⟩;have hp:p=none:=hp;subst hp;have hL:w.heap[l]? =some (.loop (nB fn F ps f j dd .ready none)):=hL;have T:U l:=hU.1 l hl;have hy:=run_yield (P:=P) (args:=z) hL (by show z.size=ps.size;rw [hs,aa,zL]);have ad:∀b,b<C.w0.heap.size->(C.X b\/b=l)->C.O0 b:=λb B hx=>hx.elim (C.hXO b) λe=>absurd B (by omega);have a8:∀k,C.σ0 k≠none->aIA n1 σ1 k=σ1 k:=λk G=>rG (zC (zG λbm=>G (C.hz k bm)) au)
 have ak:cU C.O0 C.σ0 C.w0 C.n0 σ S w m:=aj.compR a8 au hG ad;have bf:∀k,m<=k->σ k=none:=λk G=>(hR.fresh k G).2;have ar:∀b,C.X b->U b:=λb B=>hU.1 b (hX b B);have Q:∀r,(bTW C n' l r U σ S w m ar T bf).Under C:=λr=> ⟨λb h=>.inl h,λb h=>hU.1 b (a1 b h),λb h=>(hU.2 b h).elim (aq b) λh=>.inr (zM aj.keep.size h),ak.keep.size,λπ w h=>h.1,λπ π' w w' h h' e=>⟨h',(e l T ah).trans h.2⟩,λσ' S' w' m' g=>ak.comp g ad⟩
 have bd:(ps.zip z).foldl (λM (x:Tmp×Value)=>M.setIfInBounds x.1 x.2) F=(ps.toList.zip z.toList).foldl (λt (p:Nat×Value)=>t.setIfInBounds p.1 p.2) F:=by rw [<-Array.foldl_toList,Array.toList_zip]
 obtain⟨ba,ac⟩:=aHZ (O:=Own U σ S) (w:=w) (σ:=σ) ps.toList vs z.toList J F aa (by rw [zL];exact hs) bc a6 (λi v c h1 h2=>hv i v c h1 (by simpa using h2)) λd s hm=>by
  obtain⟨k1,k2⟩:=a9 d s hm;refine⟨k1,k2.mono (hG.keep.wider λb B=>?_) (λb B h=>?_) λk G=>(hG.sg k (show aIA n1 σ1 k≠none by rw [rG (aFY (ab d s hm) G)];exact k2.refs k G)).trans (rG (aFY (ab d s hm) G))⟩
  ·rcases B with (B |rfl)|B
   ·exact .inl (hX b B)
   ·exact .inl hl
   ·exact .inr B
  ·rcases h with h |h
   ·rcases hU.2 b h with h |h
    ·exact .inl h
    ·exact absurd B (Nat.not_lt.2 h)
   ·rcases hG.own b B h with (B |rfl)|B
    ·exact .inl (hX b B)
    ·exact .inl hl
    ·exact .inr B
 refine⟨fn,_,f,j,hy,roundIn_of_wpIn trivial ?_⟩;have r0:aXH U (λb=>C.X b\/b=l) w N σ ⟨aRD J ps.toList vs,S,m⟩ { tmps:=(ps.toList.zip z.toList).foldl (λt (p:Nat×Value)=>t.setIfInBounds p.1 p.2) F,defers:= [] } w:= ⟨U,[],⟨λb h=>h,λb h=>.inl h⟩,⟨.nil,by simp⟩,by simp,letI:qE:=⟨([]:List Nat).map cV⟩;⟨hR,ba,rfl,λd s hm=>by obtain⟨k1,k2⟩:=ac d s hm;unfold SVR;rw [k1];exact k2⟩⟩
 have g0:cU (λb=>(C.X b\/b=l)\/fD σ S b) σ w m σ S w m:=⟨cG.refl _ _,λ_ _ h=>.inr h,λ_ _=>rfl,Nat.le_refl _⟩;show f.wpIn (Fr (some l)) n' P _ { tmps:=(ps.zip z).foldl (λM (x:Tmp×Value)=>M.setIfInBounds x.1 x.2) F,defers:= [] } w;rw [bd];refine ha _ (Q (nB fn F ps f j dd .ready none)) π ⟨aRD J ps.toList vs,S,m⟩ _ σ _ w _ (kG (by rintro ⟨_,_,h⟩;exact h)) r0 (λp hp=>(ac p.1 p.2 hp).1) g0 ⟨hC,hL⟩ hA ?_
 rintro e π1 bh σ2 ai w2 ⟨rfl,hB⟩ ⟨U2,ae,ao,av,H,aw⟩ a2 a3 ⟨ay,al⟩;have ap:U2 l:=ao.1 l T;have a0:= @bJ.rel _ ⟨ae.map cV⟩ _ _ _ _ _ _ aw;have k2:cG U2 w2 (w2.putObj l (.loop (nB fn F ps f j dd .busy none))):=(qT l _).wider λb e=>e▸ap;have a4:l<w2.heap.size:=(Array.getElem?_eq_some_iff.1 al).1;refine⟨_,run_beginRound al rfl,?_⟩
 refine B _ (Q (nB fn F ps f j dd .busy none)) π1 bh _ σ2 ai (w2.putObj l (.loop (nB fn F ps f j dd .busy none))) _ (by rintro ⟨_,_,h⟩;exact h)
  ⟨U2,ae,ao,av,λD hD=>⟨(H D hD).1,(H D hD).2.1,(World.putObj_heap_other λe=>(H D hD).2.1 (.inr e)).trans (H D hD).2.2⟩,(letI:qE:=⟨ae.map cV⟩;aw.turn k2 (λb _ h=>h) λb h=>by rw [World.putObj_size];exact a0.ulim b h)⟩
  a2 (a3.putl (.inl (.inr rfl)) _) ⟨C.hBk π1 w2 _ (λb B=>World.putObj_heap_other λe=>ah (e▸B)) ay,World.putObj_heap_same a4⟩ hB ?_
 rintro e π2 Y σ3 bi w3 G ⟨U3,ax,R,bk,bj,a7⟩ bl W ⟨az,am⟩;have Z:U3 l:=R.1 l T;have ag:= @bJ.rel _ ⟨ax.map cV⟩ _ _ _ _ _ _ a7;have a5:l<w3.heap.size:=(Array.getElem?_eq_some_iff.1 am).1
 have af:∀(E:Option Code) (p:Option Ex),aR3 (nB fn F ps f j dd) p=nB fn F ps f j dd (if E.isNone then .ready else .done) E->K E.isNone (π2,p) Y.so Y.nx->
  ∃v w',(Instr.endRound l E).run P w3=.ok v w'/\∃b π' σ' S' m',Ending.returned v=.returned (.bool b)/\K b π' S' m'/\aV U σ' S' w' m'/\tH (λb=>C.X b\/b=l) σ S w m σ' S' w' m'/\C.Bk π'.1 w'/\w'.heap[l]? =some (.loop (aR3 (nB fn F ps f j dd) π'.2)):=by
  intro E p hp G;have k3:∀o,cG U3 w3 (w3.putObj l o):=λo=>(qT l o).wider λb e=>e▸Z;refine⟨_,_,run_endRound E am,E.isNone,(π2,p),σ3,Y.so,Y.nx,rfl,G,ag.turn (k3 _) (λb _ h=>R.1 b h) (λb h=>by rw [World.putObj_size];exact ag.ulim b (R.1 b h)),⟨W.keep.trans (qT l _) λb _ e=>.inl (.inr e),λb B ho=>(W.own b B ho).elim (λhx=>?_) id,W.sg,W.nx⟩,C.hBk π2 w3 _ (λb B=>World.putObj_heap_other λe=>ah (e▸B)) az,?_⟩
  ·exact absurd (hx.elim (λh=>R.1 b (ar b h)) λe=>e▸Z) (ag.disj b ho)
  ·show(w3.putObj l _).heap[l]? =some (.loop (aR3 (nB fn F ps f j dd) p));rw [World.putObj_heap_same a5,hp];rfl
 cases e with
 |normal=>exact af none none rfl G
 |exit id=>exact af (some (.exit id)) (some (.exit id)) rfl G
 |ret=>exact af (some .ret) (some .ret) rfl G
end
end Go.Sk
namespace Go.Sk
open Go Go.RowKit
variable [gL]
section
variable {P:Program} {Γ:Type}
theorem sB {F:Fence} {n:Nat} {fn:Func} {tmps:Array Value} {R:Ending->World->Prop} :∀(f:List Nat) (w:World),f.Nodup->(∀D∈f,w.heap[D]? =some (.deferred (some [])))->
 (∀w',cG (λb=>b∈f) w w'->∃v,(results fn tmps).run P w'=.ok v w'/\R (.returned v) w')->LeavesInM F n P fn tmps R (f.map cV) .returning w
 | [],w,_,_,h=>h w (cG.refl _ _)
 |D::f,w,m,z,h=>by obtain⟨E,h2⟩:=List.nodup_cons.1 m;refine⟨by simp,.inl ⟨D,_,rfl,run_takeDeferred (z D zJ),sB f _ h2 (λB j=>(World.putObj_heap_other (show B≠D from λe=>E (by rw [<-e];exact j))).trans (z B (zH _ j))) λw' H=>?_⟩⟩;exact h w' (((qT D _).wider λb e=>by subst e;exact zJ).trans H λb _ G=>zH _ G)
theorem aAO(w:World)(o:Go.Obj):cG (λ_=>False) w (w.alloc o):= ⟨rfl,rfl,rfl,by rw [World.size_alloc];omega,λb e _=>by show(w.heap.push o)[b]? =_;rw [Array.getElem?_push,if_neg (by omega)]⟩
theorem aJ.range {C:Cy P Γ} {N:Nat} (bx:C.rd=none) {g:Operand} {gA:A} (hg:bK g=some gA) {ps:Array Tmp} {f z:Code} (bw:∀p∈ps.toList,p<N) {gf:Nat} {fn:Func} {cg:Code} (a3:P.funcs[gf]? =some fn)(a1:fn.body=some cg)
 (a7:(fn.name== "runtime.NumGoroutine")=false) (a9:fn.results= #[]) {Ha Hb:Nat→sZ Γ} (ha:∀C2:Cy P Γ,C2.Under C→aJ C2 N f (Ha C2.n0)) (m:∀C2:Cy P Γ,C2.Under C→aJ C2 N z (Hb C2.n0))
 {aw:Nat->Nat->Rnd (Γ×Option Ex)->sZ (Γ×Option Ex)} (bn:∀(C1:Cy P (Γ×Option Ex)) (l:Nat) (Rd:Rnd (Γ×Option Ex)),C1.rd=none->kV C1 l Rd->aJ C1 fn.ntmps cg (aw l C1.n0 Rd)):
 aJ C N (.rangeFunc g ps f z) (λπ st K=>∃B n1,bR st.sl [] gA=.fn gf B/\B.length+1<=fn.ntmps/\(C.n0<=n1/\n1<=st.nx)/\st.sl.all (λp=>bAZ n1 p.2.v)=true/\∀l,aw l n1 (bB3 st.sl ps.toList Ha Hb) (π,none) ⟨(0,⟨[],true,.val (.func (.yield l) #[] #[])⟩)::dV 1 B,st.so,st.nx⟩ λe q E=>
  (e=.normal\/e=.ret)/\match q.2 with |none=>K .normal q.1 ⟨st.sl,E.so,E.nx⟩|some ex=>K ex q.1 ⟨st.sl,E.so,E.nx⟩):=by
 rintro π st K σ j w Q hq ⟨U,Mk,hU,a6,H,hrel⟩ ad J bj ⟨B,n1,bv,b5,⟨ar,bu⟩,au,hH⟩ hQ;have hv:= @iC _ U N σ st j w ⟨Mk.map cV⟩ hrel [] (λg hg=>by cases hg) _ _ hg
 have hR:= @bJ.rel _ ⟨Mk.map cV⟩ _ _ _ _ _ _ hrel;rw [bv] at hv
 obtain⟨Y,bm,b9,br⟩:∃Y:Array Value,j.eval g=.func (.func gf) #[] Y/\Y.size=B.length/\∀(i:Nat) y v,B[i]? =some y->Y[i]? =some v->VR (Own U σ st.so) w σ y v:=by
  generalize j.eval g=v at hv
  cases hv with
  |fn hn h=>exact⟨_,rfl,hn,h⟩
 have eg:∀aa w,(callFunc gf aa).run P w=.ok (.enter gf aa) w:=λaa w=>by
  have bi:¬fn.body=none:=λh=>by rw [a1] at h;cases h
  have bt:¬fn.name= "runtime.NumGoroutine" :=fun h=>by rw [h] at a7;simp at a7
  simp [callFunc,a3,bt,bi]
 rw [bx];refine wpIn_rangeFunc ?_;intro F _;obtain⟨G,ac⟩:∃G,(w.alloc (.deferred (some []))).alloc (.loop (nB F j.tmps ps f z w.heap.size .ready none))=G:=⟨_,rfl⟩;have b6:G.heap.size=w.heap.size+2:=by rw [<-ac,World.size_alloc,World.size_alloc]
 have ae:cG (λ_=>False) w G:=by rw [<-ac];exact(aAO w _).trans (aAO _ _) λb _ h=>h
 have bd:G.heap[w.heap.size+1]? =some (.loop (nB F j.tmps ps f z w.heap.size .ready none)):=by rw [<-ac];have :=World.alloc_heap_new (w.alloc (.deferred (some []))) (.loop (nB F j.tmps ps f z w.heap.size .ready none));rwa [World.size_alloc] at this
 have bc:G.heap[w.heap.size]? =some (.deferred (some [])):=by rw [<-ac];exact((aAO (w.alloc (.deferred (some []))) _).block w.heap.size (by rw [World.size_alloc];omega) id).trans (World.alloc_heap_new w _)
 refine⟨w.heap.size+1,[cV w.heap.size],G, { target:=.fn (.func gf) Y,args:= #[.func (.yield (w.heap.size+1)) #[] #[]] },G,gf,#[.func (.yield (w.heap.size+1)) #[] #[]]++Y,G,?_,?_,λ_ _=>trivial,?_,λe=>absurd e (by simp [Fr,Fence.wide]),?_⟩
 ·rw [<-ac];exact run_enterLoop_outer _ _ _ _ _
 ·simp only [resolve,bm];simp [go_sem]
 ·simp [invoke,go_sem,eg]
 have ah:∀b,C.X b->b<w.heap.size:=λb h=>hR.ulim b (hU.1 b (C.hX b h));have a5:¬C.X (w.heap.size+1):=λh=>absurd (ah _ h) (by omega);have ab:∀b,C.U0 b->(U b\/b=w.heap.size\/b=w.heap.size+1):=λb h=>.inl (hU.1 b h)
 have aj:∀b,(U b\/b=w.heap.size\/b=w.heap.size+1)->C.U0 b\/C.w0.heap.size<=b:=λb h=>by
  have :=J.keep.size;rcases h with h |h |h
  ·exact hU.2 b h
  ·exact .inr (by omega)
  ·exact .inr (by omega)
 have ag: @bJ _ ⟨Mk.map cV⟩ (λb=>U b\/b=w.heap.size\/b=w.heap.size+1) N σ st j G:=by
  letI:qE:=⟨Mk.map cV⟩
  refine hrel.turn (ae.wider λ_ h=>h.elim) (λb m h=>?_) λb h=>?_
  ·rcases h with h |h |h
   ·exact h
   ·omega
   ·omega
  ·rcases h with h |h |h
   ·have :=hR.ulim b h;omega
   ·omega
   ·omega
 have az:= @bJ.rel _ ⟨Mk.map cV⟩ _ _ _ _ _ _ ag;have aq:cU C.O0 C.σ0 C.w0 C.n0 σ st.so G st.nx:=⟨J.keep.trans ae λ_ _ h=>h.elim,J.own,J.sg,J.nx⟩;have af:∀d s,(d,s)∈st.sl->bAZ n1 s.v=true:=λd s R=>List.all_eq_true.1 au (d,s) R;have bz:∀k,C.σ0 k≠none->aIA n1 σ k=σ k:=λk hk=>rG (zC (zG λbo=>hk (C.hz k bo)) ar)
 have al:∀d s,(d,s)∈st.sl->s.ch=[]/\VR (Own (λb=>U b\/b=w.heap.size\/b=w.heap.size+1) σ st.so) G σ s.v (j.tmps.getD d undef):=λd s R=>by have h:= @bJ.sl _ ⟨Mk.map cV⟩ _ _ _ _ _ _ ag d s R;have hc:=ad _ R;unfold SVR at h;rw [hc] at h;exact⟨hc,h⟩
 have am:= @bJ.sz _ ⟨Mk.map cV⟩ _ _ _ _ _ _ hrel;have bk:= @bJ.df _ ⟨Mk.map cV⟩ _ _ _ _ _ _ hrel;have bs:C.w0.heap.size<=w.heap.size+1:=by have :=J.keep.size;omega
 have b3:=bB4 (C:=C) (n:=C.n-1) (fn:=F) (dd:=w.heap.size) (λb h=>ab b (C.hX b h)) (.inr (.inr rfl)) ar a5 bs ab aj aq am bw al af ha m;have bl:=bn _ _ _ rfl b3;refine callsIn_of_wp_marks a3 a1 trivial ?_
 refine bl (π,none) ⟨(0,⟨[],true,.val (.func (.yield (w.heap.size+1)) #[] #[])⟩)::dV 1 B,st.so,st.nx⟩ _ σ _ G _ (by rintro ⟨_,_,h⟩;exact hq h) ⟨_,[],⟨λb h=>h,λb h=>.inl h⟩,⟨.nil,by simp⟩,by simp,letI:qE:=⟨([]:List Nat).map cV⟩;⟨az,by simp;omega,rfl,λd s R=>?_⟩⟩ (λp hp=>?_) ⟨cG.refl _ _,λ_ _ h=>.inr h,λk hk=>(if_pos (zG λbo=>hk (aK4 bo))).symm,bu⟩
  ⟨C.hBk π w G (λb m=>ae.block b (ah b m) id) bj,bd⟩ (hH _) ?_
 ·rcases List.mem_cons.1 R with R |R
  ·obtain⟨rfl,rfl⟩:=Prod.mk.inj R;unfold SVR;simp only;have :((#[Value.func (.yield (w.heap.size+1)) #[] #[]]++Y)++zI (fn.ntmps- (#[Value.func (.yield (w.heap.size+1)) #[] #[]]++Y).size) undef).getD 0 undef=Value.func (.yield (w.heap.size+1)) #[] #[]:=by rw [zA,zD (by simp;omega),zD (by simp)];rfl
   rw [this];exact .val _
  ·obtain⟨i,v,hv,he⟩:=fF R;obtain⟨rfl,rfl⟩:=Prod.mk.inj he;obtain⟨hi,-⟩:=List.getElem?_eq_some_iff.1 hv;have hc:=zK (xs:=Y) (i:=i) (by omega);unfold SVR;simp only;have :((#[Value.func (.yield (w.heap.size+1)) #[] #[]]++Y)++zI (fn.ntmps- (#[Value.func (.yield (w.heap.size+1)) #[] #[]]++Y).size) undef).getD (1+i) undef=Y[i]:=by rw [zA,zD (by simp;omega),Array.getElem?_append_right (by simp)];simp [hc]
   rw [this]
   exact(br i v _ hv hc).mono (ae.wider λ_ h=>h.elim) (λb m h=>h.imp (λh=>by
    rcases h with h |h |h
    ·exact h
    ·omega
    ·omega) id) λ_ _=>rfl
 ·rcases List.mem_cons.1 hp with rfl |hp
  ·rfl
  ·obtain⟨i,v,-,rfl⟩:=fF hp;rfl
 rintro e ⟨π',p'⟩ E σ' ai w' ⟨he,hK⟩ ⟨U2,T,ap,ak,O,a8⟩ b8 W ⟨ba,bf⟩;have ay:= @bJ.rel _ ⟨T.map cV⟩ _ _ _ _ _ _ a8;have a2:= @bJ.df _ ⟨T.map cV⟩ _ _ _ _ _ _ a8;have a0:U2 (w.heap.size+1):=ap.1 _ (.inr (.inr rfl));have bp:(w.heap.size+1)∉T:=λh=>(O _ h).2.1 (.inr rfl);have b7:G.heap.size<=w'.heap.size:=W.keep.size
 have b2:LeavesInM (Fr none) (C.n-1) P fn ai.tmps (rangePost (Fr none) C.n P (w.heap.size+1) Q { j with defers:= [cV w.heap.size]++j.defers }) ai.defers .returning w':=by
  rw [a2];refine sB T w' ak.1 (λD M=>(O D M).2.2) λw3 a4=>⟨.tuple #[],by unfold results;rw [a9];simp,?_⟩;have bh:w3.heap[w.heap.size+1]? =some (.loop (aR3 (nB F j.tmps ps f z w.heap.size) p')):=(a4.block _ (by omega) bp).trans bf;refine⟨_,_,run_endLoop bh (by cases p' <;> simp [aR3,nB]),?_⟩
  generalize b0:w3.putObj (w.heap.size+1) (.loop { aR3 (nB F j.tmps ps f z w.heap.size) p' with state:=.exhausted })=Z
  have k4:cG (λb=>b∈T\/b=w.heap.size+1) w' Z:=by rw [<-b0];exact(a4.wider λ_ h=>.inl h).trans (qT _ _) λb _ h=>.inr h
  have av:∀b,b<G.heap.size->(b∈T\/b=w.heap.size+1)->b=w.heap.size+1:=λb m h=>h.elim (λh=>absurd m (Nat.not_lt.2 (ak.2 b h))) id
  have b1:cG (Own (λb=>U b\/b=w.heap.size\/b=w.heap.size+1) σ st.so) G Z:=(W.keep.wider λb m=>by
   rcases m with (m |rfl)|m
   ·exact .inl (ab b (C.hX b m))
   ·exact .inl (.inr (.inr rfl))
   ·exact .inr m).trans k4 λb m h=>.inl (.inr (.inr (av b m h)))
  have r4: @bJ _ ⟨(w.heap.size::Mk).map cV⟩ (λb=>U b\/b=w.heap.size\/b=w.heap.size+1) N σ' ⟨st.sl,E.so,E.nx⟩ { j with defers:= [cV w.heap.size]++j.defers } Z:=by
   letI:qE:=⟨(w.heap.size::Mk).map cV⟩
   refine⟨ay.turn (k4.wider λb m=>m.elim (λh=>(O b h).1) λe=>e▸a0) (λb m h=>ap.1 b h) (λb h=>zC (ay.ulim b (ap.1 b h)) k4.size),am,by show [cV w.heap.size]++j.defers=_;rw [bk];rfl,λd s R=>?_⟩;obtain⟨k1,k2⟩:=al d s R;unfold SVR;rw [k1];refine k2.mono b1 (λb m h=>?_) λk hk=>(W.sg k (show aIA n1 σ k≠none by rw [rG (aFY (af d s R) hk)];exact k2.refs k hk)).trans (rG (aFY (af d s R) hk));rcases h with h |h
   ·exact .inl h
   ·rcases W.own b m h with (m |rfl)|m
    ·exact .inl (ab b (C.hX b m))
    ·exact .inl (.inr (.inr rfl))
    ·exact .inr m
  have ao:∀b,b<G.heap.size->(U b\/b=w.heap.size\/b=w.heap.size+1)->¬C.X b->b≠w.heap.size+1->Z.heap[b]? =G.heap[b]? :=λb m hu hx hl=>
   (k4.block b (by omega) λh=>hl (av b m h)).trans (W.keep.block b m λh=>by
    rcases h with (h |h)|h
    ·exact hx h
    ·exact hl h
    ·exact az.disj b h hu)
  have ax:¬C.X w.heap.size:=λh=>absurd (ah _ h) (by omega)
  have rE:aXH C.U0 C.X C.w0 N σ' ⟨st.sl,E.so,E.nx⟩ { j with defers:= [cV w.heap.size]++j.defers } Z:=by
   refine⟨_,w.heap.size::Mk,⟨ab,aj⟩,⟨List.nodup_cons.2 ⟨λh=>absurd (hR.ulim _ (H _ h).1) (Nat.lt_irrefl _),a6.1⟩,λD M=>?_⟩,λD M=>?_,r4⟩
   ·rcases List.mem_cons.1 M with rfl |M
    ·exact J.keep.size
    ·exact a6.2 D M
   ·rcases List.mem_cons.1 M with rfl |M
    ·exact⟨.inr (.inl rfl),ax,(ao _ (by omega) (.inr (.inl rfl)) ax (by omega)).trans bc⟩
    ·have bq:=hR.ulim D (H D M).1;exact⟨.inl (H D M).1,(H D M).2.1,((ao D (by omega) (.inl (H D M).1) (H D M).2.1 (by omega)).trans (ae.block D bq id)).trans (H D M).2.2⟩
  have g4:cU C.O0 C.σ0 C.w0 C.n0 σ' E.so Z E.nx:=by have g:=aq.compR bz ar W λb m hx=>hx.elim (C.hXO b) λe=>absurd m (by omega);exact⟨g.keep.trans k4 λb m h=>absurd (av b (zC m aq.keep.size) h) (by omega),g.own,g.sg,g.nx⟩
  have b4:C.Bk π' Z:=C.hBk π' w' Z (λb m=>k4.block b (by have :=ah b m;omega) λh=>h.elim (λh=>(O b h).2.1 (.inl m)) λe=>a5 (e▸m)) ba
  cases p' with
  |none=>exact hQ .normal π' _ σ' _ Z hK rE ad g4 b4
  |some ex=>
   cases ex with
   |normal=>exact wpIn_skip (hQ .normal π' _ σ' _ Z hK rE ad g4 b4)
   |exit id=>exact wpIn_exit (hQ (.exit id) π' _ σ' _ Z hK rE ad g4 b4)
   |ret=>exact wpIn_ret (hQ .ret π' _ σ' _ Z hK rE ad g4 b4)
 rcases he with rfl |rfl <;> exact b2
end
end Go.Sk
namespace Go.Sk
open Go Go.RowKit
variable [gL]
section
variable {P:Program}
theorem fnE {f:FuncId} {fn:Func} {c:Code} {rvs:List RV} {ob0 z:List Obj} {args:List V} {K:V} (hf:P.funcs[f]? =some fn)(ag:fn.body=some c)(ah:fn.results.toList.mapM (jR P)=some rvs)(hn:Nat.ble args.length fn.ntmps=true)
 {H:Nat->sZ Unit} (h:∀C:Cy P Unit,C.rd=none->aJ C fn.ntmps c (H C.n0)) (hK:cL 16 0 ob0.length λn0=>H n0 () ⟨dV 0 args,aI 0 ob0,n0⟩ λe _ st=>pR P n0 rvs K z e st):aM P f ob0 args K z:=by
 rw [dS] at hK;simp only [aKR] at hK;have hn:=zE hn;intro U σ w m hR hl ha;refine aNC (r:=none) (n:=0) (callsIn_of_wp_marks hf ag trivial ?_)
 have hrel: @bJ _ ⟨([]:List Nat).map cV⟩ U fn.ntmps σ ⟨dV 0 args,aI 0 ob0,ob0.length⟩ { tmps:=m++zI (fn.ntmps-m.size) undef,defers:= [] } w:=by
  letI:qE:=⟨([]:List Nat).map cV⟩
  refine⟨hR,by simp;omega,rfl,λd s hm=>?_⟩;obtain⟨i,v,hv,he⟩:=fF hm;obtain⟨rfl,rfl⟩:=Prod.mk.inj he;obtain⟨hi,-⟩:=List.getElem?_eq_some_iff.1 hv;have hc:=zK (xs:=m) (i:=i) (by omega);unfold SVR;simp only [Nat.zero_add];have :(m++zI (fn.ntmps-m.size) undef).getD i undef=m[i]:=by rw [zA,zD (by omega),hc];rfl
  rw [this];exact ha i v _ hv hc
 refine h ⟨none,0,U,λ_=>False,λ_ _=>True,fD σ (aI 0 ob0),σ,w,ob0.length,λ_ h=>h.elim,λ_ h=>h.elim,λ_ _ _ _ h=>h,λk R=>(hR.fresh k R).2⟩ rfl () _ _ σ _ w _ (by rintro ⟨_,_,cv,O,h,-⟩;cases h)
  ⟨U,[],⟨λb h=>h,λb h=>.inl h⟩,⟨.nil,by simp⟩,by simp,hrel⟩ (λp hp=>by obtain⟨i,v,-,rfl⟩:=fF hp;rfl) (bP.refl _ _ _ _).toB trivial hK ?_
 rintro e _ M O B w' R ⟨U2,J,ab,T,Q,Z⟩ al g0 -;have af:= @bJ.rel _ ⟨J.map cV⟩ _ _ _ _ _ _ Z;have ac:= @bJ.df _ ⟨J.map cV⟩ _ _ _ _ _ _ Z
 have aa:aMY ob0.length rvs K z M->LeavesInM (Fr none) 0 P fn B.tmps (λe w'=>∃cv O,e=.returned cv/\aV U O (aI 0 z) w' z.length/\VR (Own U O (aI 0 z)) w' O K cv/\bP σ (aI 0 ob0) w ob0.length O (aI 0 z) w' z.length) B.defers .returning w':=by
  intro ad;rw [ac];refine sB J w' T.1 (λD hD=>(Q D hD).2.2) λw3 W=>?_
  letI:qE:=⟨J.map cV⟩
  have Y:bJ U fn.ntmps O M B w3:=Z.turn (W.wider λb hb=>(Q b hb).1) (λb _ h=>ab.1 b h) λb h=>zC (af.ulim b (ab.1 b h)) W.size;have g':cU (fD σ (aI 0 ob0)) σ w ob0.length O M.so w3 M.nx:=⟨g0.keep.trans W λb hb h=>absurd hb (Nat.not_lt.2 (T.2 b h)),g0.own,g0.sg,g0.nx⟩;obtain⟨vs,E,⟨ids,q1,ai,aj,ak,q5⟩,F,G,ae⟩:=rI Y _ rvs ah _ ad;have q2:=oJ ai
  have q3:∀j,j<ob0.length->ids[j]? =some (some j):=λj hj=>by have :=mK _ 0 ids aj j hj;rwa [Nat.zero_add] at this
  have q4:=zE ak;refine⟨(if h:E.toArray.size=1 then E.toArray[0] else .tuple E.toArray),?_,_,rJ O ids z,rfl,Y.rel.view q1 q2,?_,⟨g'.keep,λb hb hO=>?_,λk R=>?_,q4⟩⟩
  ·have he:results fn B.tmps=(do let vs<-fn.results.mapM (aCC B.tmps);pure (if h:vs.size=1 then vs[0] else .tuple vs)):=by
    unfold results
    congr 1
   rw [he,Sem.run_bind,Array.mapM_eq_mapM_toList];simp only [Sem.run_map,ae,Result.andThen_ok,Sem.run_pure]
  ·refine aIL Y.rel q1 q5 ?_
   match vs,E,F,G with
   | [v],[cv],_,G=>exact G 0 v cv rfl rfl
   | [],[],_,_=>exact .tup rfl (by simp)
   |v1::v2::vs,c1::c2::E,F,G=>
    have :¬((c1::c2::E).toArray.size=1):=by simp
    rw [dif_neg this];exact .tup (by simpa using F.symm) λi v c hv hc=>G i v c hv (by simpa using hc)
  ·obtain⟨j,k,p,es,cap,-,e2,e3⟩:=jO q1 hO;exact g'.own b hb ⟨k,p,es,cap,e2,e3⟩
  ·rw [<-g'.sg k R];simp [rJ,q3 k (zG λam=>R ((hR.fresh k am).2))]
 cases e with
 |normal=>exact aa R
 |ret=>exact aa R
 |exit id=>exact R.elim
end
end Go.Sk
namespace Go.Sk
open Go Go.RowKit
variable [gL]
def cD:List Nat->Code->Code
 | [],c=>c
 |0::p,.seq a _=>cD p a
 |_::p,.seq _ b=>cD p b
 |0::p,.cond _ a _=>cD p a
 |_::p,.cond _ _ b=>cD p b
 |_::p,.block _ a=>cD p a
 |_::p,.loop a=>cD p a
 |0::p,.rangeFunc _ _ a _=>cD p a
 |_::p,.rangeFunc _ _ _ b=>cD p b
 |_::_,c=>c
structure cQ(P:Program)(N:Nat)(live:List Nat)(ks:List Ct)(c:Code) where
 rc:RC
 h:aI9 P N live ks c=some rc
def opsOf:Code->Array Oper
 | .region _ ops _=>ops
 |_=> #[]
def bBB:Nat->List iZ->Option (List iZ×Option Nat×Option (Nat×Bool)×A×List A×List iZ)
 |0,⟨d,g,.vcall c xs⟩::r=>some ([],d,g,c,xs,r)
 |j+1,i::r=>match bBB j r with
  |some (a,q)=>some (i::a,q)
  |none=>none
 |_,_=>none
def bRF(P:Program)(N:Nat)(ops:Array Oper)(j:Nat):Option (List iZ×Option Nat×Option (Nat×Bool)×A×List A×List iZ):=
 match cW P ops N ops.toList with
 |some l=>match gF aIU l with
  |some l=>bBB j l
  |none=>none
 |none=>none
structure aXI(P:Program)(N j:Nat)(c:Code) where
 pre:List iZ
 d:Option Nat
 g:Option (Nat×Bool)
 x:A
 xs:List A
 suf:List iZ
 h:bRF P N (opsOf c) j=some (pre,d,g,x,xs,suf)
section
variable {Γ:Type}
def bH(P:Program)(n0:Nat)(rc:RC):sZ Γ:=λπ st K=>Cd P n0 rc st λe st'=>K e π st'
def dA(Ha Hb:sZ Γ):sZ Γ:=λπ st K=>Ha π st λe π' st'=>match e with | .normal=>Hb π' st' K | .exit id=>K (.exit id) π' st' | .ret=>K .ret π' st'
def aEY(n0:Nat)(H:sZ Γ):sZ Γ:=λπ st K=>∃st',View n0 st st'/\H π st' K
def fN(id:Nat)(H:sZ Γ):sZ Γ:=λπ st K=>H π st λe π' st'=>match e with | .exit j=>if j=id then K .normal π' st' else K (.exit j) π' st' | .normal=>K .normal π' st' | .ret=>K .ret π' st'
def aBN(n0:Nat)(H:sZ Γ):sZ Γ:=fun π st K=>∃(α:Type) (I:α→Prop) (F:α→St) (G:α→Γ) (m:α→Nat),(∃a,I a∧View n0 st (F a)∧G a=π)∧
    ∀a,I a->H (G a) (F a) λe π' st'=>match e with | .normal=>∃a',I a'/\View n0 st' (F a')/\G a'=π'/\m a'<m a | .exit id=>K (.exit id) π' st' | .ret=>K .ret π' st'
def aI3(n0:Nat)(gA:A)(gf N:Nat)(ps:List Nat)(Ha Hb:Nat->sZ Γ)(Hit:Nat->Nat->Rnd (Γ×Option Ex)->sZ (Γ×Option Ex)):sZ Γ:=λπ st K=>∃caps n1,bR st.sl [] gA=.fn gf caps/\caps.length+1<=N/\(n0<=n1/\n1<=st.nx)/\st.sl.all (λp=>bAZ n1 p.2.v)=true/\∀l,Hit l n1 (bB3 st.sl ps Ha Hb) (π,none) ⟨(0,⟨[],true,.val (.func (.yield l) #[] #[])⟩)::dV 1 caps,st.so,st.nx⟩ λe q st'=> (e=.normal\/e=.ret)/\match q.2 with |none=>K .normal q.1 ⟨st.sl,st'.so,st'.nx⟩|some ex=>K ex q.1 ⟨st.sl,st'.so,st'.nx⟩
end
section
variable {P:Program} {Γ:Type}
theorem aJ.bas {C:Cy P Γ} {N:Nat} {e:List Nat} {j:List Ct} {c:Code} (R:cQ P N e j c)(f:kN c=true):aJ C N c (bH P C.n0 R.rc):=aJ.base (oN R.h) f
theorem aUJ:∀ {j:Nat} {l a:List iZ} {d:Option Nat} {g:Option (Nat×Bool)} {c:A} {xs:List A} {r:List iZ},bBB j l=some (a,d,g,c,xs,r)->l=a++⟨d,g,.vcall c xs⟩::r/\a.length=j
 |0,[],_,_,_,_,_,_,h=>by cases h
 |0,⟨d,g,i⟩::l,a,_,_,_,_,_,h=>by
  cases i <;> first | (cases h;done)| (simp only [bBB,zse,Prod.mk.injEq] at h;obtain⟨rfl,rfl,rfl,rfl,rfl,rfl⟩:=h;exact⟨rfl,rfl⟩)
 |j+1,[],_,_,_,_,_,_,h=>by cases h
 |j+1,i::l,a,d,g,c,xs,r,h=>by
  simp only [bBB] at h;split at h
  ·rename_i m q f;simp only [zse,Prod.mk.injEq] at h;obtain⟨rfl,rfl⟩:=h;obtain⟨e1,e⟩:=aUJ f;exact⟨by rw [e1];rfl,by simp [e]⟩
  ·cases h
theorem aOZ {l:Nat} {e:Rnd Γ} {rest:List iZ} {π:Γ} {K:Γ->St->Prop} :∀(pre:List iZ) (st:St),aHV P l e pre.length (pre++rest) π st K=sH P pre st λf=>aHV P l e 0 rest π f K
 | [],_=>rfl
 | ⟨d,g,i⟩::r,st=>by simp only [List.length_cons,List.cons_append,aHV,sH,aOZ r];cases guardOf st.sl g <;> rfl
def aE1(P:Program)(l:Nat)(Rd:Rnd Γ)(pre:List iZ)(d:Option Nat)(g:Option (Nat×Bool))(x:A)(xs:List A)(suf:List iZ)(kill:List Nat):sZ Γ:=λπ st K=>
 aRA P pre st λ| ⟨sl,so,nx⟩=>rY sl g λch gc=>match gc with
  |true=>bR sl ch x=.val (.func (.yield l) #[] #[])/\Rd π (xs.map (bR sl ch)) so nx (λb π' S' n'=> dN S' λS'=>cL 64 0 n' λn'=>aC3 sl d ⟨ch,true,.bool b⟩ λsl=>aRA P suf ⟨sl,S',n'⟩ λ| ⟨sl0,so0,nx0⟩=>fE kill sl0 λsl=>K .normal π' ⟨sl,so0,nx0⟩)
  |false=>bO0 (bR sl ch x)=false/\aC3 sl d ⟨ch,false,.any⟩ λsl=>aRA P suf ⟨sl,so,nx⟩ λ| ⟨sl0,so0,nx0⟩=>fE kill sl0 λsl=>K .normal π ⟨sl,so0,nx0⟩
theorem aJ.yldR {C:Cy P Γ} {N j id:Nat} {ops:Array Oper} (R:aXI P N j (.region id ops false))(e:List Nat) {l:Nat} {m:Rnd Γ} (Z:kV C l m)(G:kQ [] (R.pre++⟨R.d,R.g,.vcall R.x R.xs⟩::R.suf)=true)(F:kN (.region id ops false)=true):
 aJ C N (.region id ops false) (aE1 P l m R.pre R.d R.g R.x R.xs R.suf e):=by
 have T:cW P ops N ops.toList=some (R.pre++⟨R.d,R.g,.vcall R.x R.xs⟩::R.suf):=by
  have h:=R.h;unfold bRF at h;simp only [opsOf] at h;split at h
  ·rename_i l0 J;split at h
   ·rename_i l1 M;rw [J,<-dQ (λ_ _ h=>aLM h) M,(aUJ h).1]
   ·cases h
  ·cases h
 intro π st K σ z w Q W Y E hg D B O;refine aJ.yld T G F Z R.pre.length e π st K σ z w Q W Y E hg D ?_ O;show aHV P l m R.pre.length (R.pre++ { d:=R.d,g:=R.g,i:=I.vcall R.x R.xs } ::R.suf) π st λπ' f=>K Ex.normal π' { sl:=clean e f.sl,so:=f.so,nx:=f.nx }
 rw [aOZ];unfold aE1 at B;rw [aBY,vT] at B;refine cast (congrArg (sH P R.pre st) (funext λaa=>?_)) B;obtain⟨sl,so,nx⟩:=aa;simp only [nK,aHV,eU,dS,rF,aBY,vT,iB]
 cases guardOf sl R.g with
 |none=>rfl
 |some q=>obtain⟨ch,H⟩:=q;cases H <;> rfl
end
end Go.Sk
namespace Go.Sk
open Go Go.RowKit
variable [gL]
theorem FnM.of {P:Program} {f:FuncId} {ob0 B:List Obj} {args:List V} {D:V} (W:aM P f [] (args.map (pur (aI 0 ob0))) D B)(hp:args.all (puB (aI 0 ob0))=true)(hq:args.all (aE3 (List.range ob0.length))=true):FnM P f ob0 args D B:=by
 intro U σ w m F Z O;have H:=aBG hp hq;have j:∀(J:Sg) (b:Nat),¬fD J ([]:aD) b:=λJ b ⟨k,o,es,cap,h,_⟩=>by simp [aD.get] at h
 refine(W U (λ_=>none) w m (aV.none _ w F.ulim (F.gl.less λb h=>.inl h)) (by simpa using Z) λi v c E R=>?_).mono λe w' ⟨M,J,T,G,E,g⟩=>⟨M,J,T,G,E,⟨?_,?_,λk Y=>absurd rfl Y,Nat.zero_le _⟩⟩
 ·rw [List.getElem?_map,Option.map_eq_some_iff] at E;obtain⟨K,z,rfl⟩:=E;obtain⟨o1,o2⟩:=aD4 H K (zF z);exact(aYP F (O i K c z R) o1 o2).mono (cG.refl _ _) (λb _ h=>h.elim .inl λh=>absurd h (j _ b)) λ_ _=>rfl
 ·exact g.keep.wider λb h=>absurd h (j _ b)
 ·intro b Q ho;exact absurd (g.own b Q ho) (j _ b)
section
variable {P:Program} {Γ:Type} {C:Cy P Γ} {N:Nat}
theorem aJ.sq {a b:Code} {e f:sZ Γ} (j:aJ C N a e)(m:aJ C N b f):aJ C N (.seq a b) (dA e f):=aJ.seq j m
theorem aJ.bl {id:Nat} {c:Code} {H:sZ Γ} (h:aJ C N c H):aJ C N (.block id c) (fN id H):=aJ.block h
theorem aJ.lp {c:Code} {H:sZ Γ} (h:aJ C N c H):aJ C N (.loop c) (aBN C.n0 H):=aJ.loop h
theorem aJ.vw {c:Code} {H:sZ Γ} (h:aJ C N c H):aJ C N c (aEY C.n0 H):=aJ.view h
theorem aJ.rg(J:C.rd=none) {g:Operand} {R:A} (hg:bK g=some R) {ps:Array Tmp} {e f:Code} (H:∀p∈ps.toList,p<N) {T:Nat} {fn:Func} {Q:Code} (E:P.funcs[T]? =some fn)(D:fn.body=some Q)
 (G:(fn.name== "runtime.NumGoroutine")=false) (z:fn.results= #[]) {K M:Nat→sZ Γ} (W:∀j:Cy P Γ,j.Under C→aJ j N e (K j.n0)) (Y:∀j:Cy P Γ,j.Under C→aJ j N f (M j.n0))
 {m:Nat->Nat->Rnd (Γ×Option Ex)->sZ (Γ×Option Ex)} (F:∀(B:Cy P (Γ×Option Ex)) (l:Nat) (O:Rnd (Γ×Option Ex)),B.rd=none->kV B l O->aJ B fn.ntmps Q (m l B.n0 O)):
 aJ C N (.rangeFunc g ps e f) (aI3 C.n0 R T fn.ntmps ps.toList K M m):=aJ.range J hg H E D G z W Y F
end
end Go.Sk
