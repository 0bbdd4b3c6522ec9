/- Caches. -/
import Derived.Test.YtmhapcbjjpadnaaGreatK8c
import Derived.RangeFuncNested
import Derived.RangeFuncLeaves
import Derived.OrdersIn
import Derived.RangeFuncRecord
set_option linter.all false
open Array renaming getD_eq_getD_getElem?→zA,getElem?_eq_getElem→zC,length_toList→zE,replicate→zN
open Bool renaming and_eq_true→zT
open List renaming getElem?_eq_getElem→zD,range_eq_range'→zG,mem_cons_of_mem→zH,getD_eq_getElem?_getD→zI,getElem?_append_right→zJ,getElem?_append_left→zL,range'_append_1→zP,range'→zQ,length_append→zR
open Nat renaming lt_of_lt_of_le→zK,zero_add→zM,strongRecOn→zO,le_trans→zS,le_refl→zU
open Option renaming map_eq_some_iff→zF
namespace Go.Sk
open Go Go.RowKit
variable [gL]
def Fr(r:Option Nat):Fence:= { Fence.wide with round:=r }
section
variable {r:Option Nat} {n:Nat} {P:Program}
theorem Fr.steps {m e:Machine} :StepsIn (Machine.fenced P (Fr r)) P m e↔Steps P m e:=stepsIn_wide (P:=P)
theorem aXX {f:FuncId} {args:Array Value} {w:World} {R:Ending->World->Prop} (h:Calls P f args w R):CallsIn (Fr r) n P f args w R:=(callsIn_wide (n:=n)).2 h
theorem aNC {f:FuncId} {args:Array Value} {w:World} {R:Ending->World->Prop} (h:CallsIn (Fr r) n P f args w R):Calls P f args w R:=(callsIn_wide (n:=n)).1 h
theorem bEO {row:String} {args:Array Value} {w:World} {R:Value->World->Prop} (h:Rows P row args w R):RowsIn (Fr r) n P row args w R:= λc e _=>let⟨v,w',f,h2⟩:=h c e;⟨v,w',f,Fr.steps.2 h2⟩
theorem aFV {o:Oper} {a:Act} {w:World} {K:Act->World->Prop} {Q:Exit->Act->World->Prop} (z:∀c,o.op≠ .defer c)(h:o.wp P a w K Q):o.wpIn (Fr r) n P a w K Q:=by
 refine⟨λ_ _=>trivial,?_⟩;rw [Oper.semAt_eq _ _ _ z];unfold Oper.wp at h;generalize(execOp a.eval o).run P w=x at *
 cases x with
 |ok y w'=>
  cases y with
  |enter f j=>exact⟨λe=>absurd e (by simp [Fr,Fence.wide]),aXX h⟩
  |row row j=>exact⟨λe=>absurd e (by simp [Fr,Fence.wide]),bEO h⟩
  |round=>exact h.elim
  |value v=>exact h
  |skip=>exact h
  |defer d=>exact h
  |_=>exact h.elim
 |halt y w'=>cases y <;> first |exact h |exact h.elim
def aBT(ops:Array Oper):Prop:=∀(i:Nat) (o:Oper),ops[i]? =some o->∀c,o.op≠ .defer c
theorem uL {ops:Array Oper} {Q:Exit->Act->World->Prop} (f:¬LetsOut Q)(e:aBT ops):∀(l:List Nat) (a:Act) (w:World),wpOps P ops Q l a w->wpOpsIn (Fr r) n P ops Q l a w
 | [],_,_,h=>h
 |i::rest,a,w,h=>by
  unfold wpOps at h;unfold wpOpsIn
  cases j:ops[i]? with
  |none=>rw [j] at h;exact uL f e rest a w h
  |some o=>
   rw [j] at h;dsimp only at h⊢;split
   ·rename_i z;rw [if_pos z] at h;rcases h with h | ⟨-,h⟩
    ·exact Oper.wpIn_mono (λa w k=>uL f e rest a w k) (aFV (e i o j) h)
    ·exact absurd h f
   ·rename_i z;rw [if_neg z] at h;exact⟨λ_ _=>trivial,uL f e rest _ w h⟩
theorem bR5 {ops:Array Oper} {Q:Exit->Act->World->Prop} (z:¬LetsOut Q)(j:aBT ops) {i:Nat} {K:Act->World->Prop} {a:Act} {w:World} (h:wpOp P ops Q i K a w):wpOpIn (Fr r) n P ops Q i K a w:=by
 unfold wpOp at h;unfold wpOpIn
 cases e:ops[i]? with
 |none=>rw [e] at h;exact h
 |some o=>
  rw [e] at h;dsimp only at h⊢;split
  ·rename_i f;rw [if_pos f] at h;rcases h with h | ⟨-,h⟩
   ·exact aFV (j i o e) h
   ·exact absurd h z
  ·rename_i f;rw [if_neg f] at h;exact⟨λ_ _=>trivial,h⟩
theorem aQC {B:Region.Mode} {ops:Array Oper} {Q:Exit->Act->World->Prop} (z:¬LetsOut Q)(j:aBT ops):∀(f:Nat) (e:Array Bool) (a:Act) (w:World),wpAny P B ops Q f e a w->wpAnyIn (Fr r) n P B ops Q f e a w
 |0,_,_,_,h=>h
 |f+1,e,a,w,h=>⟨h.1,λi hi=>wpOpIn_mono (λa w k=>aQC z j f _ a w k) (bR5 z j (h.2 i hi))⟩
end
end Go.Sk
namespace Go.Sk
open Go Go.RowKit
variable [gL]
section
variable {P:Program} {N:Nat}
theorem aJC [qE] {U:Nat->Prop} {id:Nat} {ops:Array Oper} {l:List iZ} {an:List (List Nat)} {b0 n:Nat} (hm:P.follows .mixedOrders=true)(bq:cW P ops N ops.toList=some l)(bu:aKW an ops.toList an 0=true)(hn:b0+16*ops.size=n)
 {σ0:Sg} {B:St} {ad:Act} {H:World} (aq:bJ U N σ0 B ad H) (bv:∀p∈B.sl,p.2.ch=[]) (b3:B.nx<=b0) {K:St->Prop}
 (hK:nY P l (iI b0 ops.size) ⟨B.sl,B.so,n⟩ λz aa=>nX z an 0=true/\K ⟨look aa.sl (qU aa.sl),aa.so,aa.nx⟩) {Q:Exit->Act->World->Prop}
 (hQ:∀σ' ar ac w',K ar->bJ U N σ' ar ac w'->bP σ0 B.so H B.nx σ' ar.so w' ar.nx->Q .normal ac w'):wpAny P .any ops Q ops.size (zN ops.size false) ad { H with drawn:=H.drawn+1 } :=by
 have bn:cG (λ_=>False) H { H with drawn:=H.drawn+1 } :=⟨rfl,rfl,rfl,zU _,λ_ _ _=>rfl⟩
 have Y:=aq.of_keep bn;have bm:bP σ0 B.so H B.nx σ0 B.so { H with drawn:=H.drawn+1 } n:=by have g:=bP.of_keep (σ:=σ0) (S:=B.so) (n:=B.nx) bn;exact⟨g.keep,g.own,g.sg,by omega⟩
 generalize({ H with drawn:=H.drawn+1 } :World)=w0 at Y bm⊢
 obtain⟨z,aa,⟨a5,bs⟩,ay,-,bh,bf,a0,az⟩:=aNU (n:=n) (ops:=ops) l (iI b0 ops.size) ops.toList _ _ bq hK (λm ab=>by
  obtain⟨j,F⟩:=List.getElem?_of_mem ab;rw [mH] at F;split at F
  ·obtain rfl:=zsi F;omega
  ·cases F)
 simp only at bh bf a0 az;have ay:=ay.trans zE;obtain⟨aw,bl⟩:=aCP bu;have aw:=aw.trans zE
 have Z:∀i o,ops[i]? =some o->∃r a,z[i]? =some r/\an[i]? =some a/\i<ops.size/\(∀p∈lB o,p<i)/\(∀k∈a,∃p∈lB o,k=p\/k∈an.getD p [])/\aS8 r (b0+16*i)/\∃SL SO,(∀d s,(d,s)∈SL->d∈r.rd/\bY (wrS d) (λj=>decide (j<i)) z (eI B.sl d)=some s)/\
  (∀S:aD,(∀k∈r.T,S.get k=bY (wrO k) (λj=>decide (j<i)) z (B.so.get k))->iT S r.T=SO)/\Loc P N n ops o r SL SO:=by
  intro i o ho;have hi:i<ops.size:=(Array.getElem?_eq_some_iff.1 ho).1;have hr:=zD (l:=z) (i:=i) (by omega);have ha:=zD (l:=an) (i:=i) (by omega);have ag:ops.toList[i]? =some o:=by simpa using ho
  obtain⟨e1,e2⟩:=bl i o _ ag ha;obtain⟨e3,e4⟩:=az i _ o (b0+16*i) hr ag (by rw [mH,if_pos hi]);exact⟨_,_,hr,ha,hi,λp hp=>by have :=e1 p hp;omega,e2,e3,e4⟩
 have av:∀ {D:Nat->Bool},(∀j o,ops[j]? =some o->D j=true->∀p∈lB o,D p=true)->∀j,j<ops.size->D j=true->∀a,an[j]? =some a->∀i∈a,D i=true:=by
  intro D hD j
  induction j using zO with
  |_ j ih=>
   intro F E a ha i hi;have ho:=zC F;obtain⟨r,a',-,bt,-,e1,e2,-⟩:=Z j _ ho;obtain rfl:a=a':=zsi (ha.symm.trans bt);obtain⟨p,hp,h⟩:=e2 i hi;have bd:=hD j _ ho E p hp;have b1:=e1 p hp;rcases h with rfl |h
   ·exact bd
   ·have ae:=zD (l:=an) (i:=p) (by omega);rw [zI,ae] at h;exact ih p b1 (by omega) bd _ ae i h
 have au:∀(i j:Nat) r M a,i<j->z[i]? =some r->z[j]? =some M->an[j]? =some a->(i∈a/\qY M.d r.cs=true)\/aG6 r M:=λi j r M a bz hi F ha=>by
  rcases aAN a5 i j r M a bz hi F ha with h |h
  ·exact .inl (by simpa using h)
  ·exact .inr (aH6 h)
 have br:∀(R:Nat) (f:Array Bool) (O:Act) (w:World),f.size=ops.size->(unl ops.size f).length<=R->
  (∃σ S,(∀k,S.get k=bY (wrO k) (λi=>f.getD i false) z (B.so.get k))/\aIQ U N σ (λt=>bY (wrS t) (λi=>f.getD i false) z (eI B.sl t)) S n O w/\bP σ0 B.so H B.nx σ S w n/\
   (∀i q,i<ops.size->f.getD i false=false->q<16->σ (b0+16*i+q)=none)/\(∀j o,ops[j]? =some o->f.getD j false=true->∀p∈lB o,f.getD p false=true))->
  wpAny P .any ops Q R f O w:=by
  have tf:∀(f:Array Bool),f.size=ops.size->∀i,i<ops.size->f.getD i true=f.getD i false:=λf hs i hi=>by rw [zA,zA,zC (by omega)];rfl
  have done:∀(f:Array Bool) (O:Act) (w:World),f.size=ops.size->Region.ready .any ops f=[]->(∃σ S,(∀k,S.get k=bY (wrO k) (λi=>f.getD i false) z (B.so.get k))/\aIQ U N σ (λt=>bY (wrS t) (λi=>f.getD i false) z (eI B.sl t)) S n O w/\bP σ0 B.so H B.nx σ S w n)->Q .normal O w:=by
   intro f O w hs hr ⟨σ,S,hS,hrel,hg⟩
   have bj:∀i,i<ops.size->f.getD i false=true:=by
    intro i
    induction i using zO with
    |_ i ih=>
     intro hi;have ho:=zC hi;obtain⟨r,a',-,-,-,e1,-⟩:=Z i _ ho
     cases hd:f.getD i false with
     |true=>rfl
     |false=> have :i∈Region.ready .any ops f:=mem_ready.2 ⟨by rw [tf f hs i hi];exact hd,_,ho,λe he hb=>by have hp:=e1 e.on (vP.2 ⟨e,he,hb,rfl⟩);exact ih e.on hp (by omega)⟩;rw [hr] at this;cases this
   have cg:∀(j:Nat) r,z[j]? =some r->f.getD j false=true:=λj r F=>bj j (by have :=(List.getElem?_eq_some_iff.1 F).1;omega);have a4:∀k,S.get k=aa.so.get k:=λk=>by rw [hS k,bf k];exact fR λj r F _=>cg j r F
   refine hQ σ _ O w bs ⟨?_,hrel.sz,hrel.df,λd s ab=>?_⟩ ?_
   ·simp only;rw [a0];exact hrel.rel.congr λk=>(a4 k).symm
   ·have hs:=(mP ab).2;rw [bh d] at hs;have :=hrel.sl d s (by rw [<-hs];exact fR λj r F _=>cg j r F)
    have hO:Own U σ S=Own U σ aa.so:=by
     funext b
     unfold Own fD;simp only [a4]
    rw [hO] at this;exact this
   ·simp only;rw [a0];refine⟨hg.keep,λb hb hO=>hg.own b hb ?_,hg.sg,hg.nx⟩;obtain⟨k,o,es,cap,h1,h2⟩:=hO;exact⟨k,o,es,cap,by rw [a4];exact h1,h2⟩
  intro R
  induction R with
  |zero=>
   rintro f O w hs hf ⟨σ,S,h1,h2,h3,-⟩;have hu:unl ops.size f=[]:=List.length_eq_zero_iff.1 (by omega);have hr:Region.ready .any ops f=[]:=by rw [List.eq_nil_iff_forall_not_mem];intro i hi;obtain⟨a1,o,a2,-⟩:=mem_ready.1 hi;have :i∈unl ops.size f:=List.mem_filter.2 ⟨List.mem_range.2 (Array.getElem?_eq_some_iff.1 a2).1,by rw [a1];rfl⟩;rw [hu] at this;cases this
   exact⟨hr,done f O w hs hr ⟨σ,S,h1,h2,h3⟩⟩
  |succ R ih=>
   intro f O w hs hf ⟨σ,S,h1,h2,h3,h4,h5⟩;refine⟨λhr=>done f O w hs hr ⟨σ,S,h1,h2,h3⟩,λi hi=>?_⟩;obtain⟨a1,o,ho,a3⟩:=mem_ready.1 hi;obtain⟨r,a,hr,ha,ax,e1,e2,e3,SL,SO,e4,e5,e6⟩:=Z i o ho;have W:f.getD i false=false:=by rw [<-tf f hs i ax];exact a1
   have ah:∀p∈lB o,f.getD p false=true:=λp hp=>by obtain⟨e,he,hb,rfl⟩:=vP.1 hp;exact a3 e he hb
   have bk:∀j∈a,f.getD j false=true:=λj F=>by
    obtain⟨p,hp,h⟩:=e2 j F;have b4:=e1 p hp;rcases h with rfl |h
    ·exact ah _ hp
    ·have ae:=zD (l:=an) (i:=p) (by omega);rw [zI,ae] at h;exact av h5 p (by omega) (ah p hp) _ ae j h
   have J:∀(j:Nat) M,z[j]? =some M->(j<i/\((f.getD j false=true/\qY r.d M.cs=true)\/aG6 M r))\/j=i\/(i<j/\(f.getD j false=false\/aG6 r M)):=by
    intro j M F;rcases Nat.lt_trichotomy j i with h |h |h
    ·left;refine⟨h,?_⟩;rcases au j i M r a h F hr ha with ⟨h1,h2⟩|h1
     ·exact .inl ⟨bk j h1,h2⟩
     ·exact .inr h1
    ·exact .inr (.inl h)
    ·right;right;refine⟨h,?_⟩;have af:j<ops.size:=by have :=(List.getElem?_eq_some_iff.1 F).1;omega
     have bi:=zD (l:=an) (i:=j) (by omega);rcases au i j r M _ h hr F bi with ⟨h1,h2⟩|h1
     ·left
      cases hd:f.getD j false with
      |false=>rfl
      |true=>rw [av h5 j af hd _ bi i h1] at W;cases W
     ·exact .inr h1
   have ao:∀d∈r.rd,bY (wrS d) (λj=>f.getD j false) z (eI B.sl d)=bY (wrS d) (λj=>decide (j<i)) z (eI B.sl d):=by
    intro d hd;refine fR λj M F hw=>?_;have al:=aMT hw;rcases J j M F with ⟨h,G |G⟩|h | ⟨h,G |G⟩
    ·rw [G.1];simp [h]
    ·exact absurd al (G.d1 d hd)
    ·subst h;rw [W];simp
    ·rw [G];simp;omega
    ·exact absurd al (G.d2 d hd)
   have am:∀k∈r.T,bY (wrO k) (λj=>f.getD j false) z (B.so.get k)=bY (wrO k) (λj=>decide (j<i)) z (B.so.get k):=by
    intro k hk;refine fR λj M F hw=>?_;have al:=aMS hw;rcases J j M F with ⟨h,G |G⟩|h | ⟨h,G |G⟩
    ·rw [G.1];simp [h]
    ·exact absurd hk (G.o1 k al)
    ·subst h;rw [W];simp
    ·rw [G];simp;omega
    ·exact absurd hk (G.o3 k al)
   have bp:r.m=b0+16*i:=e3.m;unfold wpOp;simp only [ho]
   have step:=e6 U σ _ S O w (λac w'=>wpAny P .any ops Q R (f.setIfInBounds i true) ac w') Q h2 (λd s ab=>by rw [ao d (e4 d s ab).1];exact(e4 d s ab).2)
    (e5 S λk hk=>by rw [h1 k];exact am k hk) (λq hq=>⟨?_,by rw [bp];exact h4 i q ax W hq⟩) (λt s ht x hx hd=>?_) λσ' cv w' a7 bw b2=>?_
   ·split
    ·rename_i hw;rw [if_pos hw] at step;exact .inl step
    ·rename_i hw;rw [if_neg hw] at step;exact step
   ·rw [h1,jM λj M F E=>?_]
    ·exact(Y.rel.fresh _ (by omega)).1
    ·unfold wrO;rw [if_neg];intro hk;have af:j<ops.size:=by have :=(List.getElem?_eq_some_iff.1 F).1;omega
     obtain⟨a8,-,ai,-,-,-,-,a6,-⟩:=Z j _ (zC af);obtain rfl:M=a8:=zsi (F.symm.trans ai);have bo:=a6.ids _ hk;rcases J j M F with ⟨h,-⟩|h | ⟨h,G |G⟩
     ·omega
     ·subst h;rw [W] at E;cases E
     ·rw [G] at E;cases E
     ·exact G.o4 _ hk ⟨by omega,by omega⟩
   ·rcases aD2 (wr:=wrS t) (rs:=z) (D:=λj=>f.getD j false) (x:=eI B.sl t) with h | ⟨j,M,v,F,E,hv,hF⟩
    ·rw [h] at ht;have :=bv _ (gZ ht);simp only at this;rw [this] at hx;cases hx
    ·rw [hF] at ht;unfold wrS at hv;split at hv
     ·obtain rfl:=zsi hv;obtain rfl:=zsi ht;have af:j<ops.size:=by have :=(List.getElem?_eq_some_iff.1 F).1;omega
      obtain⟨a8,-,ai,-,-,-,-,a6,-⟩:=Z j _ (zC af);obtain rfl:M=a8:=zsi (F.symm.trans ai);obtain⟨c1,c2⟩:=a6.cs x hx;rcases J j M F with ⟨h,G |G⟩|h | ⟨h,G |G⟩
      ·exact oK G.2 _ c1 hd
      ·exact G.d2 _ c2 hd
      ·subst h;rw [W] at E;cases E
      ·rw [G] at E;cases E
      ·exact G.d1 _ c2 hd
     ·cases hv
   ·
    have ak:∀j,(f.setIfInBounds i true).getD j false=(j==i||f.getD j false):=λj=>by
     by_cases h:j=i
     ·subst h;rw [zA,Array.getElem?_setIfInBounds_self_of_lt (by omega)];simp
     ·rw [zA,Array.getElem?_setIfInBounds_ne (Ne.symm h),<-zA];simp [h]
    have bc:(λj=>(f.setIfInBounds i true).getD j false)=λj=>j==i||f.getD j false:=funext ak
    have ba:∀t,bY (wrS t) (λj=>(f.setIfInBounds i true).getD j false) z (eI B.sl t)=if r.d=some t then some r.s else bY (wrS t) (λj=>f.getD j false) z (eI B.sl t):=λt=>by
     rw [bc,qL hr W λhw j M F bo E=>?_]
     ·unfold wrS;split <;> rfl
     ·rcases J j M F with ⟨h,-⟩|h | ⟨h,G |G⟩
      ·omega
      ·omega
      ·rw [G] at E;cases E
      ·unfold wrS;rw [if_neg (G.d3 t (aMT hw))]
    have a9:∀k,bY (wrO k) (λj=>(f.setIfInBounds i true).getD j false) z (B.so.get k)=if k∈r.ids then r.S1.get k else bY (wrO k) (λj=>f.getD j false) z (B.so.get k):=λk=>by
     rw [bc,qL hr W λhw j M F bo E=>?_]
     ·unfold wrO;split <;> rfl
     ·rcases J j M F with ⟨h,-⟩|h | ⟨h,G |G⟩
      ·omega
      ·omega
      ·rw [G] at E;cases E
      ·unfold wrO;rw [if_neg (G.o2 k (aMS hw))]
    refine ih _ _ w' (by simp [hs]) (by have :=aUQ hs a1;omega) ⟨σ',_,λk=>?_,?_,h3.trans bw,λi' q bx ap hq=>?_,λj o' ag E p hp=>?_⟩
    ·rw [oM,a9 k,h1 k]
    ·have :(λt=>bY (wrS t) (λj=>(f.setIfInBounds i true).getD j false) z (eI B.sl t))=λt=>if r.d=some t then some r.s else bY (wrS t) (λj=>f.getD j false) z (eI B.sl t):=funext ba
     rw [this];exact a7
    ·rw [ak] at ap;simp only [Bool.or_eq_false_iff,zbn] at ap;rw [b2 _ (by rw [bp];have :=ap.1;omega)];exact h4 i' q bx ap.2 hq
    ·rw [ak] at E⊢;simp only [Bool.or_eq_true,zbe] at E⊢;right;rcases E with rfl |E
     ·obtain rfl:o=o':=zsi (ho.symm.trans ag);exact ah p hp
     ·exact h5 j o' ag E p hp
 have aj:∀(i:Nat),(zN ops.size false).getD i false=false:=λi=>by rw [zA,Array.getElem?_replicate];split <;> rfl
 refine br ops.size _ ad w0 (by simp) ?_ ⟨σ0,B.so,λk=>?_,?_,bm,λi q hi _ _=>(Y.rel.fresh _ (by omega)).2,λj o ho hD=>by rw [aj] at hD;cases hD⟩
 ·exact zS (List.length_filter_le _ _) (by simp)
 ·rw [jM λj r _ h=>by rw [aj] at h;cases h]
 ·have :(λt=>bY (wrS t) (λi=>(zN ops.size false).getD i false) z (eI B.sl t))=eI B.sl:=funext λt=>jM λj r _ h=>by rw [aj] at h;cases h
  rw [this];have :=aIQ.of Y;exact⟨this.rel.wider (by omega),this.sz,this.df,this.sl⟩
def aR7(o:Oper):Bool:=match o.op with
 | .defer _=>false
 |_=>true
def kN:Code->Bool
 | .region _ ops _=>ops.toList.all aR7
 | .seq a b=>kN a&&kN b
 | .cond _ a b=>kN a&&kN b
 | .block _ a=>kN a
 | .loop a=>kN a
 |_=>true
theorem nM {id:Nat} {ops:Array Oper} {d:Bool} (h:kN (.region id ops d)=true):aBT ops:=λi o j c e=>by have h:ops.toList.all aR7=true:=h;have f:=List.all_eq_true.1 h o (List.mem_of_getElem? (i:=i) (by simpa using j));unfold aR7 at f;rw [e] at f;cases f
theorem aTC {a b:Code} (h:kN (.seq a b)=true):kN a=true:=(Bool.and_eq_true_iff.1 h).1
theorem aTD {a b:Code} (h:kN (.seq a b)=true):kN b=true:=(Bool.and_eq_true_iff.1 h).2
theorem aZJ {c:Operand} {a b:Code} (h:kN (.cond c a b)=true):kN a=true:=(Bool.and_eq_true_iff.1 h).1
theorem aZK {c:Operand} {a b:Code} (h:kN (.cond c a b)=true):kN b=true:=(Bool.and_eq_true_iff.1 h).2
theorem kG {Q:Exit->Act->World->Prop} {K:Act->World->Prop} (h:¬LetsOut Q):¬LetsOut (Exit.then K Q):=h
theorem aEF {Q:Exit->Act->World->Prop} {id:Nat} (h:¬LetsOut Q):¬LetsOut (Exit.inBlock id Q):=h
theorem mU {F:Fence} {n:Nat} {Q:Exit->Act->World->Prop} {a:Act} {w:World} {c:Code} (I:Nat->Act->World->Prop)(k:Nat)(h₀:I k a w)
 (round:∀j a w,I j a w->c.wpIn F n P (Exit.then (λG w'=>∃i,i<j/\I i G w') Q) a w):(Code.loop c).wpIn F n P Q a w:=by
 intro b Y H T K R
 have W:∀j a w,I j a w->
  ∃e G w',Q e G w'/\ArrivesIn (Machine.fenced P F) P (lone (b.atR a (.code c:: .inLoop c::Y)) H w) b Y H e G w':=by
  intro j
  induction j using zO with
  |_ j ih=>
   intro a w hI;obtain⟨e,D,E,z,f⟩:=round j a w hI b (.inLoop c::Y) H T K R
   cases e with
   |normal=> obtain⟨i,M,J⟩:=z;obtain⟨e₂,Z,w₂,O,B⟩:=ih i M D E J;exact⟨e₂,Z,w₂,O,.of_steps (StepsIn.trans f (.one (fenced_calm K R rfl) stepR_inLoop)) B⟩
   |exit id=>exact⟨_,D,E,z,.pass (x:=.inLoop c) rfl (λ_ _=>.inl (by simp)) f⟩
   |goto l=>exact⟨_,D,E,z,.pass (x:=.inLoop c) rfl (λ_ _=>.inl (by simp)) f⟩
   |ret=>exact⟨_,D,E,z,.pass (x:=.inLoop c) rfl (λ_ _=>.inl (by simp)) f⟩
   |panic ch=>exact⟨_,D,E,z,.pass (x:=.inLoop c) rfl (λ_ _=>.inl (by simp)) f⟩
   |outgrown=>exact⟨_,D,E,z,.pass (x:=.inLoop c) rfl (λ_ _=>.inl (by simp)) f⟩
 obtain⟨e,G,w',z,f⟩:=W k a w h₀;exact⟨e,G,w',z,.of_steps (.one (fenced_calm K R rfl) stepR_loop) f⟩
end
section
variable {P:Program} {N:Nat} {U:Nat->Prop}
theorem bCL [qE] {r:Option Nat} {n:Nat} {n0:Nat} {σ0:Sg} {O0:Nat->Prop} {w0:World} (hz:∀k,n0<=k->σ0 k=none):∀(rc:RC) (c:Code) (st:St) (K:Ex->St->Prop) (σ:Sg) (z:Act) (w:World) (Q:Exit->Act->World->Prop),dK P N c=some (strip rc)->kN c=true->¬LetsOut Q->
 bJ U N σ st z w->jW st.sl->cU O0 σ0 w0 n0 σ st.so w st.nx->dF P n0 rc st K->
 (∀e J σ' D w',K e J->bJ U N σ' J D w'->jW J.sl->cU O0 σ0 w0 n0 σ' J.so w' J.nx->Q (aVO e) D w')->c.wpIn (Fr r) n P Q z w:=by
 intro rc
 induction rc with
 |skip=> intro c st K σ z w Q f H G hrel E hg T O;have Y:=bV f;simp only [strip] at Y;subst Y;exact wpIn_skip (O .normal st σ z w T hrel E hg)
 |reg l W=> intro c st K σ z w Q f H G hrel E hg T O;obtain⟨id,ab,rfl,hl,ad⟩:=bV f;refine wpIn_region (uL G (nM H) _ _ _ ?_);simp only [dF] at T;rw [zG,<-zE];exact kO ab.toList l 0 [] σ st z w (by simp) hl ad hrel (λd s hm g hg=>by rw [E _ hm] at hg;cases hg) T λσ' J D w' M B g=> O .normal _ σ' D w' M (B.clean W) (λp hp=>(eA hp).2) (hg.trans g)
 |dreg b0 n l W an ms=>
  intro c st K σ z w Q f H G hrel E hg T O;obtain⟨id,ab,rfl,hl,hm,al,hn,rfl⟩:=bV f;simp only [dF] at T;split at T
  ·rename_i hb;exact wpIn_region_any hm (aQC G (nM H) _ _ _ _ (aJC (id:=id) hm hl al hn hrel E (Nat.le_of_ble_eq_true hb) (K:=λJ=>K .normal ⟨clean W J.sl,J.so,J.nx⟩) T λσ' J D w' M B g=> O .normal _ σ' D w' M (B.clean W) (λp hp=>(eA hp).2) (hg.trans g)))
  ·rw [aDT] at T;exact wpIn_region_any hm (aQC G (nM H) _ _ _ _ (aJC (id:=id) (b0:=b0+st.nx) hm hl al (by omega) hrel E (Nat.le_add_left _ _) (K:=λJ=>K .normal ⟨clean W J.sl,J.so,J.nx⟩) T λσ' J D w' M B g=> O .normal _ σ' D w' M (B.clean W) (λp hp=>(eA hp).2) (hg.trans g)))
 |seq a b ae af=>
  intro c st K σ z w Q f H G hrel E hg T O;obtain⟨x,y,rfl,Y,h2⟩:=bV f;refine wpIn_seq (ae x st _ σ z w _ Y (aTC H) (kG G) hrel E hg T λe J σ' D w' M B R Z=>?_)
  cases e with
  |normal=>exact af y J K σ' D w' Q h2 (aTD H) G B R Z M O
  |exit id=>exact O _ _ _ _ _ M B R Z
  |ret=>exact O _ _ _ _ _ M B R Z
 |regc a b W=>
  intro c st K σ z w Q f H G hrel E hg T O;obtain⟨id,ab,rfl,hl,ad⟩:=bV (rc:=.reg (a++b) []) f;obtain⟨α,I,F,hA,hB⟩:=T;refine wpIn_region (uL G (nM H) _ _ _ ?_);obtain⟨l1,l2,e,e1,e2⟩:=jQ a _ b hl;obtain⟨aj,ak⟩:=kR a b _ ad;rw [zG,<-zE,e,zR,<-zP,zM];have aa:∀j:Nat,(l1++l2)[j]? =ab[j]? :=λj=>by rw [<-e];simp
  have Y:l1.length<=ab.toList.length:=by rw [e];simp
  refine iW (P:=P) l1 a 0 [] σ st z w (λj hj=>by rw [zM,<-aa,zL hj]) e1 aj hrel (λd s hm g hg=>by rw [E _ hm] at hg;cases hg) hA λσ' J D w' M B g=>?_
  ·obtain⟨u,hu,hv⟩:=M;obtain⟨σ2,r2,c2,g2⟩:=hv.rel B hz (hg.trans g);exact kO l2 b l1.length [] σ2 (F u) D w' (λj=>by rw [<-aa,zJ (by omega)];simp) e2 ak r2 (λd s hm g hg=>by rw [c2 _ hm] at hg;cases hg) (hB u hu) λσ3 au ac w3 ah ai g3=> O .normal _ σ3 ac w3 ah (ai.clean W) (λp hp=>(eA hp).2) (g2.trans g3)
 |regv a d b W=>
  intro c st K σ z w Q f H G hrel E hg T O;obtain⟨id,ab,rfl,hl,ad⟩:=bV (rc:=.reg (a++b) []) f;obtain⟨α,I,F,hA,hB⟩:=T;refine wpIn_region (uL G (nM H) _ _ _ ?_);obtain⟨l1,l2,e,e1,e2⟩:=jQ a _ b hl;obtain⟨aj,ak⟩:=kR a b _ ad;rw [zG,<-zE,e,zR,<-zP,zM];have aa:∀j:Nat,(l1++l2)[j]? =ab[j]? :=λj=>by rw [<-e];simp
  have Y:l1.length<=ab.toList.length:=by rw [e];simp
  refine iW (P:=P) l1 a 0 [] σ st z w (λj hj=>by rw [zM,<-aa,zL hj]) e1 aj hrel (λd s hm g hg=>by rw [E _ hm] at hg;cases hg) hA λσ' J D w' M B g=>?_
  ·obtain⟨av,ao,aq,es,en⟩:=aK5 B M;obtain⟨u,hu,hv⟩:=ao;obtain⟨σ2,r2,c2,g2⟩:=hv.rel aq hz (by rw [es,en];exact hg.trans g);exact kO l2 b l1.length [] σ2 (F u) D w' (λj=>by rw [<-aa,zJ (by omega)];simp) e2 ak r2 (λd s hm g hg=>by rw [c2 _ hm] at hg;cases hg) (hB u hu) λσ3 au ac w3 ah ai g3=> O .normal _ σ3 ac w3 ah (ai.clean W) (λp hp=>(eA hp).2) (g2.trans g3)
 |cut a b ae af=>
  intro c st K σ z w Q f H G hrel E hg T O;obtain⟨x,y,rfl,Y,h2⟩:=bV (rc:=.seq (strip a) (strip b)) f;obtain⟨α,I,F,hA,hB⟩:=T;refine wpIn_seq (ae x st _ σ z w _ Y (aTC H) (kG G) hrel E hg hA λe J σ' D w' M B R Z=>?_)
  cases e with
  |normal=> obtain⟨u,hu,hv⟩:=M;obtain⟨σ2,r2,c2,g2⟩:=hv.rel B hz Z;exact af y (F u) K σ2 D w' Q h2 (aTD H) G r2 c2 g2 (hB u hu) O
  |exit id=>exact O _ _ _ _ _ M B R Z
  |ret=>exact O _ _ _ _ _ M B R Z
 |cond cc a b ae af=>
  intro c st K σ z w Q f H G hrel E hg T O;obtain⟨cx,x,y,rfl,h0,Y,h2⟩:=bV f;simp only [dF] at T;split at T
  ·rename_i t ht;have hv:=iC hrel (ch:= []) (λg hg=>by cases hg) h0
   rw [ht] at hv;generalize he:z.eval cx=v at hv;cases hv
   exact wpIn_cond_split he (λh=>ae x st K σ z w Q Y (aZJ H) G hrel E hg (T.1 h) O) (λh=>af y st K σ z w Q h2 (aZK H) G hrel E hg (T.2 h) O)
  ·cases T
 |block id b ih=>
  intro c st K σ z w Q f H G hrel E hg T O;obtain⟨x,rfl,Y⟩:=bV f;refine wpIn_block (ih x st _ σ z w _ Y H (aEF G) hrel E hg T λe J σ' D w' M B R Z=>?_)
  cases e with
  |normal=>exact O _ _ _ _ _ M B R Z
  |ret=>exact O _ _ _ _ _ M B R Z
  |exit j=>
   simp only [aVO,Exit.inBlock];simp only at M;split
   ·rename_i h;rw [if_pos h] at M;exact O .normal _ _ _ _ M B R Z
   ·rename_i h;rw [if_neg h] at M;exact O (.exit j) _ _ _ _ M B R Z
 |loop b ih=>
  intro c st K σ z w Q f H G hrel E hg T O;obtain⟨x,rfl,Y⟩:=bV f;obtain⟨α,I,F,m,⟨a,ha,hv⟩,ag⟩:=T;obtain⟨σ1,r1,c1,g1⟩:=hv.rel hrel hz hg;refine mU (λj z w=>∃a σ,m a=j/\I a/\bJ U N σ (F a) z w/\jW (F a).sl/\cU O0 σ0 w0 n0 σ (F a).so w (F a).nx) (m a) ⟨a,σ1,rfl,ha,r1,c1,g1⟩ ?_;rintro j z w ⟨a,σ,rfl,ha,r,cl,g⟩;refine ih x (F a) _ σ z w _ Y H (kG G) r cl g (ag a ha) λe J σ' D w' M B R Z=>?_
  cases e with
  |normal=> obtain⟨a',am,ar,ap⟩:=M;obtain⟨σ2,r2,c2,g2⟩:=ar.rel B hz Z;exact⟨m a',ap,a',σ2,rfl,am,r2,c2,g2⟩
  |exit id=>exact O _ _ _ _ _ M B R Z
  |ret=>exact O _ _ _ _ _ M B R Z
 |uloop b ih=>
  intro c st K σ z w Q f H G hrel E hg T O;obtain⟨x,rfl,Y⟩:=bV (rc:=.loop (strip b)) f;obtain⟨k,M⟩:=T;refine mU (λj z w=>∃st σ,uF (dF P n0 b) K j st/\bJ U N σ st z w/\jW st.sl/\cU O0 σ0 w0 n0 σ st.so w st.nx) k ⟨st,σ,M,hrel,E,hg⟩ ?_;rintro j z w ⟨st,σ,M,r,cl,g⟩
  cases j with
  |zero=>exact M.elim
  |succ j=>
   refine ih x st _ σ z w _ Y H (kG G) r cl g M λe J σ' D w' M B R Z=>?_
   cases e with
   |normal=>exact⟨j,Nat.lt_succ_self j,J,σ',M,B,R,Z⟩
   |exit id=>exact O _ _ _ _ _ M B R Z
   |ret=>exact O _ _ _ _ _ M B R Z
 |bad=>intro c st K σ z w Q f H G hrel E hg T O;exact T.elim
 |exit id=> intro c st K σ z w Q f H G hrel E hg T O;have Y:=bV f;simp only [strip] at Y;subst Y;exact wpIn_exit (O (.exit id) st σ z w T hrel E hg)
 |ret=> intro c st K σ z w Q f H G hrel E hg T O;have Y:=bV f;simp only [strip] at Y;subst Y;exact wpIn_ret (O .ret st σ z w T hrel E hg)
end
end Go.Sk
namespace Go.Sk
open Go Go.RowKit
variable [gL]
section
variable {P:Program} {U:Nat->Prop} {σ:Sg} {S:aD} {w:World} {n m:Nat}
end
end Go.Sk
namespace Go.Sk
open Go Go.RowKit
variable [gL]
section
variable {P:Program} {U X:Nat->Prop} {σ σ' σ'':Sg} {S S' S'':aD} {w w' w'':World} {n n' n'' N:Nat}
structure tH(X:Nat->Prop)(σ:Sg)(S:aD)(w:World)(n:Nat)(σ':Sg)(S':aD)(w':World)(n':Nat):Prop where
 keep:cG (λb=>X b\/fD σ S b) w w'
 own:∀b,b<w.heap.size->fD σ' S' b->fD σ S b
 sg:∀k,σ k≠none->σ' k=σ k
 nx:n<=n'
theorem bP.toX(g:bP σ S w n σ' S' w' n'):tH X σ S w n σ' S' w' n':=⟨g.keep.wider λ_ h=>.inr h,g.own,g.sg,g.nx⟩
theorem tH.trans(h:tH X σ S w n σ' S' w' n')(g:tH X σ' S' w' n' σ'' S'' w'' n''):tH X σ S w n σ'' S'' w'' n'':= ⟨h.keep.trans g.keep λb e j=>j.imp id (h.own b e),λb e j=>h.own b e (g.own b (zK e h.keep.size) j),λk f=>(g.sg k (by rw [h.sg k f];exact f)).trans (h.sg k f),zS h.nx g.nx⟩
theorem VR.growX(f:∀b,X b->U b) {x:V} {v:Value} (h:VR (Own U σ S) w σ x v)(g:tH X σ S w n σ' S' w' n'):VR (Own U σ' S') w' σ' x v:= h.mono (g.keep.wider λb e=>e.imp (f b) id) (λb e h=>h.imp id (g.own b e)) λk j=>g.sg k (h.refs k j)
theorem cU.transX {O0:Nat->Prop} (z:∀b,X b->O0 b)(h:cU O0 σ w n σ' S' w' n')(g:tH X σ' S' w' n' σ'' S'' w'' n''):cU O0 σ w n σ'' S'' w'' n'':= ⟨h.keep.trans g.keep λb e j=>j.elim (z b) (h.own b e),λb e j=>h.own b e (g.own b (zK e h.keep.size) j),λk f=>(g.sg k (by rw [h.sg k f];exact f)).trans (h.sg k f),zS h.nx g.nx⟩
theorem bJ.putX [qE] {st:St} {act:Act} (hX:∀b,X b->U b)(h:bJ U N σ st act w) {G:List Nat} (hG:GIn st.sl G) {σ':Sg} {S':aD} {w':World} {n':Nat} (g:tH X σ st.so w st.nx σ' S' w' n')(hR':aV U σ' S' w' n')
 {d:Option Nat} (hd:∀d',d=some d'->d'<N/\d'∉G) {s:SV} {cv:Value} (hs:∀tmps',(∀g,g.1∈G->(holds tmps' g↔holds act.tmps g))->SVR (Own U σ' S') w' σ' tmps' s cv):
 bJ U N σ' ⟨tE st.sl d s,S',n'⟩ (act.put d cv) w' where
 rel:=hR'
 sz:=by cases d <;> simp [Act.put,h.sz]
 df:=by cases d <;> simp [Act.put,h.df]
 sl:=λt q hq=>by
  have hkeep:∀g:Nat×Bool,g.1∈G->(holds (act.put d cv).tmps g↔holds act.tmps g):=λg hg=>by
   cases d with
   |none=>exact Iff.rfl
   |some d=> obtain⟨h1,h2⟩:=hd d rfl;unfold holds;rw [mR (by rw [h.sz];exact h1),if_neg (λ(e:g.1=d)=>h2 (e▸hg))]
  have old:(t,q)∈st.sl->(∀d',d=some d'->t≠d')->SVR (Own U σ' S') w' σ' (act.put d cv).tmps q ((act.put d cv).tmps.getD t undef):=λhm hne=>by
   have hold:=h.sl t q hm
   have hval:(act.put d cv).tmps.getD t undef=act.tmps.getD t undef:=by
    cases d with
    |none=>rfl
    |some d=>rw [mR (by rw [h.sz];exact(hd d rfl).1),if_neg (hne d rfl)]
   rw [hval];unfold SVR at hold⊢;have hgq:=hG t q hm;split
   ·rename_i hc;rw [hc] at hold;exact hold.growX hX g
   ·rename_i gg r hc;rw [hc] at hold hgq;refine⟨λhh=>hold.1 ((hkeep gg (hgq gg (by simp))).1 hh),λhh=>⟨λx hx=>(hkeep x (hgq x hx)).2 ((hold.2.1 hh).1 x hx),(hold.2.1 hh).2.growX hX g⟩,hold.2.2⟩
  cases d with
  |none=>exact old hq λd' hd'=>by cases hd'
  |some d=>
   rcases qW hq with hq | ⟨hne,hm⟩
   ·obtain⟨rfl,rfl⟩:=Prod.mk.inj hq;rw [mR (by rw [h.sz];exact(hd _ rfl).1),if_pos rfl];exact hs _ hkeep
   ·exact old hm λd' hd'=>by obtain rfl:=zsi hd';exact hne
end
def aXM(P:Program)(F:Fence)(n:Nat)(U X:Nat->Prop) {Γ:Type} (Bk:Γ->World->Prop)(O0:Nat->Prop)(σ0:Sg)(w0:World)(n0:Nat)(l:Nat)(Rd:Γ->List V->aD->Nat->(Bool->Γ->aD->Nat->Prop)->Prop):Prop:=
 ∀(π:Γ) (vs:List V) (σ:Sg) (S:aD) (m:Nat) (w:World) (cargs:Array Value) (K:Bool->Γ->aD->Nat->Prop),aV U σ S w m->cU O0 σ0 w0 n0 σ S w m->Bk π w->cargs.size=vs.length->
  (∀(i:Nat) v c,vs[i]? =some v->cargs[i]? =some c->VR (Own U σ S) w σ v c)->Rd π vs S m K->
  YieldAt F n P l cargs w λe w'=>∃b π' σ' S' m',e=.returned (.bool b)/\K b π' S' m'/\aV U σ' S' w' m'/\tH X σ S w m σ' S' w' m'/\Bk π' w'
def bO0:V->Bool
 | .fn _ _=>true
 |_=>false
def aHV(P:Program) {Γ:Type} (l:Nat)(Rd:Γ->List V->aD->Nat->(Bool->Γ->aD->Nat->Prop)->Prop):Nat->List iZ->Γ->St->(Γ->St->Prop)->Prop
 |_,[],π,st,K=>K π st
 |0,⟨d,g,i⟩::r,π,st,K=>match guardOf st.sl g with
  |some (ch,gc)=>match i with
   | .vcall c xs=>match gc with
     |true=>bR st.sl ch c=.val (.func (.yield l) #[] #[])/\Rd π (xs.map (bR st.sl ch)) st.so st.nx λb π' S' n'=>sH P r ⟨tE st.sl d ⟨ch,true,.bool b⟩,S',n'⟩ (K π')
     |false=>bO0 (bR st.sl ch c)=false/\sH P r ⟨tE st.sl d ⟨ch,false,.any⟩,st.so,st.nx⟩ (K π)
   |_=>False
  |none=>False
 |j+1,⟨d,g,i⟩::r,π,st,K=>match guardOf st.sl g with
  |some (ch,gc)=>oC P st ch gc i λv S n=>aHV P l Rd j r π ⟨tE st.sl d ⟨ch,gc,v⟩,S,n⟩ K
  |none=>False
section
variable {P:Program} {N:Nat}
theorem aRM {o:Op} {c:A} {xs:List A} (h:aWL P o=some (.vcall c xs)):∃t args j,o=.call { callee:=.value (.tmp t),args:=args,argTypes:=j } /\c=.t t/\args.toList.mapM bK=some xs:=by
 unfold aWL at h;split at h
 ·rename_i i e;obtain rfl:=zsi h;rcases aEO e with h2 | ⟨_,_,_,_,_,_,_,h2,_⟩
  ·simp [aZ5] at h2
  ·cases h2
 ·split at h
  ·cases h
  ·split at h
   ·rename_i e;obtain rfl:=zsi h;have :=aK3 e;simp [bDH] at this
   ·unfold aI6 at h;split at h
    ·rename_i i e;obtain rfl:=zsi h;unfold aM5 at e;split at e
     ·split at e
      ·split at e
       ·simp only [zF] at e;obtain⟨_,_,f⟩:=e;cases f
       ·cases e
      ·cases e
     ·simp only [zF] at e;obtain⟨z,h2,f⟩:=e;cases f
      exact⟨_,_,_,rfl,rfl,h2⟩
     ·cases e
    ·cases h
theorem aWW {ρ:Operand->Value} {l t:Nat} {args:Array Operand} {z:Array TypeId} {o:Oper} {w:World} {E:Next} (e:o.op=.call { callee:=.value (.tmp t),args,argTypes:=z })(j:ρ (.tmp t)=.func (.yield l) #[] #[])
 (f:(Instr.yield l (args.map ρ)).run P w=.ok E w):(execOp ρ o).run P w=.ok E w:=by
 simp [execOp,e,resolve,j,Deferred.ofValue,invoke,f]
theorem aRB [qE] {U X:Nat->Prop} {Γ:Type} {Bk:Γ->World->Prop} {O0:Nat->Prop} {σ0:Sg} {w0:World} {n0 l n:Nat} {rd:Option Nat} {Rd:Γ->List V->aD->Nat->(Bool->Γ->aD->Nat->Prop)->Prop}
 (hX:∀b,X b->U b) (a3:∀b,X b->O0 b) (al:∀π (w w':World),(∀b,X b->w'.heap[b]? =w.heap[b]?)->Bk π w->Bk π w') (hy:aXM P (Fr rd) (n-1) U X Bk O0 σ0 w0 n0 l Rd)
 {ops:Array Oper} {Q:Exit->Act->World->Prop} (hq:¬LetsOut Q) (hd:aBT ops):∀(lo:List Oper) (j:Nat) (M:List iZ) (k:Nat) (G:List Nat) (σ:Sg) (st:St) (z:Act) (w:World) (π:Γ),(∀i:Nat,lo[i]? =ops[k+i]?)->cW P ops N lo=some M->kQ G M=true->
 bJ U N σ st z w->GIn st.sl G->cU O0 σ0 w0 n0 σ st.so w st.nx->Bk π w->∀ {KF:Γ->St->Prop},aHV P l Rd j M π st KF->
 (∀π' σ' ac T w',KF π' ac->bJ U N σ' ac T w'->cU O0 σ0 w0 n0 σ' ac.so w' ac.nx->tH X σ st.so w st.nx σ' ac.so w' ac.nx->Bk π' w'->Q .normal T w')->wpOpsIn (Fr rd) n P ops Q (zQ k lo.length) z w:=by
 intro lo
 induction lo with
 |nil=> intro j M k G σ st z w π _ hr _ hrel _ hg W KF H hQ;simp only [cW,zse] at hr;subst hr;cases j <;> exact hQ π σ st z w H hrel hg (bP.refl _ _ _ _).toX W
 |cons o r ih=>
  intro j M k G σ st z w π hl hr az hrel hG ah W KF H hQ;simp only [cW] at hr;split at hr
  ·rename_i i g d D h1 h2 h3 h4;obtain rfl:=zsi hr;have ho:ops[k]? =some o:=by simpa using(hl 0).symm
   have aq:∀i:Nat,r[i]? =ops[k+1+i]? :=λi=>by have :=hl (i+1);simpa [Nat.add_assoc,Nat.add_comm 1 i] using this
   have F:∀ {ch:List (Nat×Bool)} {gc:Bool},guardOf st.sl g=some (ch,gc)->∃G',(∀x∈G,x∈G')/\(∀x∈ch,x.1∈G')/\(∀d',d=some d'->d'∉G')/\kQ G' D=true:=by
    intro ch gc f;simp only [kQ,zT] at az;obtain⟨a0,Y⟩:=az;have au:∀d',d=some d'->d'∉G:=λd' ab=>by subst ab;simpa using a0
    cases hg:g with
    |none=> subst hg;simp only [guardOf,zse,Prod.mk.injEq] at f;obtain⟨rfl,rfl⟩:=f;exact⟨G,λx h=>h,by simp,au,Y⟩
    |some gb=>
     obtain⟨gd,b⟩:=gb;subst hg;simp only [zT,bne_iff_ne,ne_eq] at Y;refine⟨gd::G,λx h=>zH _ h,λx hx=>?_,λd' ab hm=>?_,Y.2⟩
     ·simp only [guardOf] at f;split at f
      ·rename_i s hs;split at f
       ·simp only [zse,Prod.mk.injEq] at f;obtain⟨rfl,-⟩:=f;rcases List.mem_cons.1 hx with rfl |hx
        ·simp
        ·exact zH _ (hG gd s (gZ hs) x hx)
       ·split at f
        ·simp only [zse,Prod.mk.injEq] at f;obtain⟨rfl,-⟩:=f;rcases List.mem_cons.1 hx with rfl |hx
         ·simp
         ·exact zH _ (hG gd s (gZ hs) x hx)
        ·cases f
       ·cases f
      ·cases f
     ·rcases List.mem_cons.1 hm with rfl |hm
      ·exact Y.1 ab
      ·exact au d' ab hm
   rw [List.length_cons,List.range'_succ];unfold wpOpsIn;simp only [ho]
   cases j with
   |succ j=>
    simp only [aHV] at H;split at H
    ·rename_i ch gc f;obtain⟨G',ad,E,ae,J⟩:=F f;have aa:GIn st.sl G':=λd s hm g hg=>ad _ (hG d s hm g hg)
     have step:=aBL (P:=P) (Q:=Q) hrel (zU _) (λi _=>hrel.rel.fresh _ (by omega)) h1 h2 h3 f aa ae E (KF:=λv S n=>aHV P l Rd j D π ⟨tE st.sl d ⟨ch,gc,v⟩,S,n⟩ KF) (next:=λT w'=>wpOpsIn (Fr rd) n P ops Q (zQ (k+1) r.length) T w') H
      (λσ' v S' n1 cv w' hk aw R g af _=>by
       rw [Nat.max_eq_right aw] at R g
       exact ih j D (k+1) G' σ' _ _ w' π aq h4 J R af (ah.trans g) (al π w w' (λb W=>g.keep.block b (hrel.rel.ulim b (hX b W)) λhO=>hrel.rel.disj b hO (hX b W)) W) hk
        λbd σ'' O B w'' ag K ap g' ar=>hQ bd σ'' O B w'' ag K ap (g.toX.trans g') ar)
     split
     ·rename_i hw;rw [if_pos hw] at step;exact aFV (hd k o ho) step
     ·rename_i hw;rw [if_neg hw] at step;exact⟨λ_ _=>trivial,step⟩
    ·cases H
   |zero=>
    simp only [aHV] at H;split at H
    ·rename_i ch gc f;split at H
     ·rename_i c xs
      cases gc with
      |false=>
      obtain⟨ak,H⟩:=H;obtain⟨G',ad,E,ae,J⟩:=F f;have aa:GIn st.sl G':=λd s hm g hg=>ad _ (hG d s hm g hg)
      have step:=aBL (P:=P) (Q:=Q) hrel (zU _) (λi _=>hrel.rel.fresh _ (by omega)) h1 h2 h3 f aa ae E (KF:=λv S n=>v=.any/\S=st.so/\n=st.nx) (next:=λT w'=>wpOpsIn (Fr rd) n P ops Q (zQ (k+1) r.length) T w') (by
       show dO P st.sl st.so st.nx ch false (.vcall c xs) _;unfold dO;simp only;split
       ·rename_i h;rw [h] at ak;cases ak
       ·exact⟨by trivial,by trivial,by trivial,by trivial⟩)
       (λσ' v S' n1 cv w' hk aw R g af _=>by obtain⟨rfl,rfl,rfl⟩:=hk;rw [Nat.max_self] at R g;exact uL hq hd _ _ _ (kO r D (k+1) G' σ' _ _ w' aq h4 J R af H λσ'' O B w'' ag K g'=> hQ π σ'' O B w'' ag K ((ah.trans g).trans g') (g.toX.trans g'.toX) (al π w w'' (λb W=>(g.trans g').keep.block b (hrel.rel.ulim b (hX b W)) λhO=>hrel.rel.disj b hO (hX b W)) W)))
      split
      ·rename_i hw;rw [if_pos hw] at step;exact aFV (hd k o ho) step
      ·rename_i hw;rw [if_neg hw] at step;exact⟨λ_ _=>trivial,step⟩
      |true=>
      obtain⟨a9,H⟩:=H;obtain⟨G',ad,E,ae,J⟩:=F f;have aa:GIn st.sl G':=λd s hm g hg=>ad _ (hG d s hm g hg);obtain⟨c1,c2,c3,c4⟩:=aBH hrel f;have Z:=c3 rfl;have hw:Region.wanted o (yielded ops z.tmps)=true:=(sO h2 hrel.sz).2 λx hx=>by obtain⟨q,hq⟩:=c4 x hx;exact Z x (by rw [hq];exact List.mem_cons_self)
      have av:o.dst=d/\∀d',d=some d'->d'<N:=by
       unfold aWJ at h3;split at h3
       ·rename_i h0;obtain rfl:=zsi h3;exact⟨h0,λ_ h=>by cases h⟩
       ·rename_i d0 h0;split at h3
        ·rename_i a6;obtain rfl:=zsi h3;exact⟨h0,λd' ab=>by obtain rfl:=zsi ab;exact a6⟩
        ·cases h3
      obtain⟨t,aj,ts,a7,rfl,a8⟩:=aRM h1;obtain⟨ay,ax⟩:=aDB a8;have a5:z.eval (.tmp t)=.func (.yield l) #[] #[]:=by have :=iC hrel Z (x:=.tmp t) (a:=.t t) rfl;rw [a9] at this;generalize z.eval (.tmp t)=v at this;cases this;rfl
      have ao:∀(i:Nat) v c,(xs.map (bR st.sl ch))[i]? =some v->(aj.map z.eval)[i]? =some c->VR (Own U σ st.so) w σ v c:=λi v c hv hc=>by rw [List.getElem?_map,zF] at hv;obtain⟨a,ha,rfl⟩:=hv;rw [Array.getElem?_map,zF] at hc;obtain⟨x,hx,rfl⟩:=hc;exact iC hrel Z (ax i x a (by simpa using hx) ha)
      obtain⟨fn,bc,a2,ba,a1,ai⟩:=hy π (xs.map (bR st.sl ch)) σ st.so st.nx w (aj.map z.eval) _ hrel.rel ah W (by simp [ay]) ao H;rw [if_pos hw];refine⟨λ_ _=>trivial,?_⟩;rw [Oper.semAt_eq _ _ _ (hd k o ho),aWW a7 a5 a1,Oper.uponIn_round];refine⟨λe=>absurd e (by simp [Fr,Fence.wide]),ai.mono ?_⟩;rintro e w' ⟨b,π',σ',S',m',rfl,hk,am,gx,a4⟩
      have R:=hrel.putX (d:=d) (s:=⟨ch,true,.bool b⟩) (cv:=.bool b) hX aa gx am (λd' h=>⟨av.2 d' h,ae d' h⟩) λtmps' ht=>by
       unfold SVR;split
       ·exact .bool b
       ·rename_i gg rr hc;have hc:ch=gg::rr:=hc;exact⟨λ_=>rfl,λ_=>⟨λx hx=>(ht x (E x (hc▸hx))).2 (Z x (hc▸hx)),.bool b⟩,λh=>by cases h⟩
      show wpOpsIn (Fr rd) n P ops Q (zQ (k+1) r.length) (z.put o.dst (.bool b)) w';rw [av.1];exact uL hq hd _ _ _ (kO r D (k+1) G' σ' _ _ w' aq h4 J R (aa.put E) hk λσ'' O B w'' ag K g'=> hQ π' σ'' O B w'' ag K ((ah.transX a3 gx).trans g') (gx.trans g'.toX) (al π' w' w'' (λb W=>g'.keep.block b (am.ulim b (hX b W)) λhO=>am.disj b hO (hX b W)) a4))
     ·cases H
    ·cases H
  ·cases hr
end
end Go.Sk
namespace Go.Sk
open Go Go.RowKit
variable [gL]
section
variable {U U':Nat->Prop} {σ:Sg} {S:aD} {w w':World} {n N:Nat}
theorem lM.turn {O O':Nat->Prop} (R:cG O w w')(Q:∀b,b<w.heap.size->O' b->O b) {z:Option (Option Nat×Nat×Nat)} {o:Obj}
 (h:lM O w σ z o) (E:∀b es cap,z=some (some b,es,cap)->w'.heap[b]? =w.heap[b]?):lM O' w' σ z o:=by
 have g0:∀ {τ:Sg} {x v},VR O w τ x v->VR O' w' τ x v:=λh=>h.mono R Q λ_ _=>rfl
 cases o with
 |row es xs=>
  obtain⟨j,h⟩:=h;refine⟨j,?_⟩
  match z,E with
  |none,_=>exact h
  |some (none,F,cap),_=>exact h
  |some (some b,F,cap),E=> obtain⟨M,h2,f,H,D,e,B⟩:=h;refine⟨M,h2,f,H,by rw [E b F cap rfl];exact D,e,λi x c y Y J=>?_⟩;obtain⟨v,G,h4,h5⟩:=B i x c y Y J;exact⟨v,G,h4,g0 h5⟩
 |box Z=> obtain⟨b,j,f,H,D,e,B⟩:=h;refine⟨b,j,f,H,by rw [E b _ _ j];exact D,e,λc y J=>?_⟩;obtain⟨v,G,h4,h5⟩:=B c y J;exact⟨v,G,h4,g0 h5⟩
 |mp xs=> obtain⟨b,j,es,K,D,e,B⟩:=h;refine⟨b,j,es,K,by rw [E b _ _ j];exact D,e,λi p T=>?_⟩;obtain⟨en,G,h4,h5⟩:=B i p T;exact⟨en,G,h4,g0 h5⟩
 |bb l=> obtain⟨b,cap,j,B,f,H,D,e,W⟩:=h;exact⟨b,cap,j,B,f,H,by rw [E b _ _ j];exact D,e,W⟩
theorem aV.turn(h:aV U σ S w n)(hk:cG U w w')(hU:∀b,b<w.heap.size->U' b->U b)(hl:∀b,U' b->b<w'.heap.size):aV U' σ S w' n where
 obj:=λk o hk'=>(h.obj k o hk').turn (hk.wider λ_ h=>.inl h) (λb hb=>Or.imp (hU b hb) id) λb es cap hs=>hk.block b (h.size ⟨k,o,es,cap,hk',hs⟩) λhu=>h.disj b ⟨k,o,es,cap,hk',hs⟩ hu
 inj:=h.inj
 fresh:=h.fresh
 disj:=λb hb hu=>h.disj b hb (hU b (h.size hb) hu)
 ulim:=hl
 gl:=h.gl.mono (hk.wider λ_ h=>.inl h) λb hb=>Or.imp (hU b hb) id
theorem SVR.turn {O O':Nat->Prop} {tmps:Array Value} {s:SV} {cv:Value} (h:SVR O w σ tmps s cv)(j:cG O w w')(f:∀b,b<w.heap.size->O' b->O b):SVR O' w' σ tmps s cv:=by
 unfold SVR at h⊢;split
 ·rename_i e;rw [e] at h;exact h.mono j f λ_ _=>rfl
 ·rename_i B r e;rw [e] at h;exact⟨h.1,λz=>⟨(h.2.1 z).1,(h.2.1 z).2.mono j f λ_ _=>rfl⟩,h.2.2⟩
theorem bJ.turn [qE] {st:St} {e:Act} (h:bJ U N σ st e w)(j:cG U w w')(f:∀b,b<w.heap.size->U' b->U b)(B:∀b,U' b->b<w'.heap.size):bJ U' N σ st e w':= ⟨h.rel.turn j f B,h.sz,h.df,λd s D=>(h.sl d s D).turn (j.wider λ_ h=>.inl h) λb z=>Or.imp (f b z) id⟩
end
def cV(D:Nat):Deferred:= { target:=.collected D,args:= #[] }
def aXH(U0 X:Nat->Prop)(w0:World)(N:Nat)(σ:Sg)(st:St)(act:Act)(w:World):Prop:= ∃(U:Nat->Prop) (Mk:List Nat),((∀b,U0 b->U b)/\∀b,U b->U0 b\/w0.heap.size<=b)/\(Mk.Nodup/\∀D∈Mk,w0.heap.size<=D)/\(∀D∈Mk,U D/\¬X D/\w.heap[D]? =some (.deferred (some [])))/\ @bJ _ ⟨Mk.map cV⟩ U N σ st act w
structure Cy(P:Program)(Γ:Type) where
 rd:Option Nat
 n:Nat
 U0:Nat->Prop
 X:Nat->Prop
 Bk:Γ->World->Prop
 O0:Nat->Prop
 σ0:Sg
 w0:World
 n0:Nat
 hX:∀b,X b->U0 b
 hXO:∀b,X b->O0 b
 hBk:∀π (w w':World),(∀b,X b->w'.heap[b]? =w.heap[b]?)->Bk π w->Bk π w'
 hz:∀k,n0<=k->σ0 k=none
abbrev sZ(Γ:Type):=Γ->St->(Ex->Γ->St->Prop)->Prop
abbrev Rnd(Γ:Type):=Γ->List V->aD->Nat->(Bool->Γ->aD->Nat->Prop)->Prop
def kV {P:Program} {Γ:Type} (C:Cy P Γ)(l:Nat)(Rd:Rnd Γ):Prop:= ∀(rd:Option Nat) (n:Nat) (U:Nat->Prop),((∀b,C.U0 b->U b)/\∀b,U b->C.U0 b\/C.w0.heap.size<=b)->aXM P (Fr rd) n U C.X C.Bk C.O0 C.σ0 C.w0 C.n0 l Rd
def aJ {P:Program} {Γ:Type} (C:Cy P Γ)(N:Nat)(c:Code)(H:sZ Γ):Prop:=
 ∀π st K σ act w Q,¬LetsOut Q->aXH C.U0 C.X C.w0 N σ st act w->jW st.sl->cU C.O0 C.σ0 C.w0 C.n0 σ st.so w st.nx->C.Bk π w->H π st K->
  (∀e π' st' σ' act' w',K e π' st'->aXH C.U0 C.X C.w0 N σ' st' act' w'->jW st'.sl->cU C.O0 C.σ0 C.w0 C.n0 σ' st'.so w' st'.nx->C.Bk π' w'->Q (aVO e) act' w')->c.wpIn (Fr C.rd) C.n P Q act w
section
variable {P:Program} {Γ:Type} {C:Cy P Γ} {N:Nat}
theorem aJ.base {rc:RC} {c:Code} (H:dK P N c=some (strip rc))(W:kN c=true):aJ C N c (λπ st K=>Cd P C.n0 rc st λe B=>K e π B):=by
 rintro π st K σ O w Q hq ⟨U,Z,hU,G,f,hrel⟩ T hg j M hQ;have M:=M.h;rw [tO] at M
 letI:qE:=⟨Z.map cV⟩
 refine bCL (O0:=fD σ st.so) (w0:=w) C.hz rc c st _ σ O w Q H W hq hrel T ⟨cG.refl _ _,λ_ _ h=>h,hg.sg,hg.nx⟩ M λe B σ' E w' hk Y R F=>?_;have z:∀b,U b->w'.heap[b]? =w.heap[b]? :=λb j=>F.keep.block b (hrel.rel.ulim b j) λhO=>hrel.rel.disj b hO j
 exact hQ e π B σ' E w' hk ⟨U,Z,hU,G,λD J=>⟨(f D J).1,(f D J).2.1,(z D (f D J).1).trans (f D J).2.2⟩,Y⟩ R
  ⟨hg.keep.trans F.keep hg.own,λb j ho=>hg.own b j (F.own b (zK j hg.keep.size) ho),F.sg,F.nx⟩ (C.hBk π w w' (λb j=>z b (hU.1 b (C.hX b j))) j)
theorem aJ.seq {a b:Code} {R T:sZ Γ} (Z:aJ C N a R)(hb:aJ C N b T):aJ C N (.seq a b) (λπ st K=>R π st λe E f=>match e with | .normal=>T E f K | .exit id=>K (.exit id) E f | .ret=>K .ret E f):=by
 intro π st K σ F w Q W hr M hg J Y H;refine wpIn_seq (Z π st _ σ F w _ (kG W) hr M hg J Y λe E f σ' D w' O B z G j=>?_)
 cases e with
 |normal=>exact hb E f K σ' D w' Q W B z G j O H
 |exit id=>exact H _ _ _ _ _ _ O B z G j
 |ret=>exact H _ _ _ _ _ _ O B z G j
theorem aJ.view {c:Code} {H:sZ Γ} (h:aJ C N c H):aJ C N c (λπ st K=>∃e,View C.n0 st e/\H π e K):=by
 rintro π st K σ j w Q R ⟨U,B,J,f,z,hrel⟩ O hg M ⟨e,T,F⟩ G
 letI:qE:=⟨B.map cV⟩
 obtain⟨Y,W,D,E⟩:=T.rel hrel C.hz hg;exact h π e K Y j w Q R ⟨U,B,J,f,z,W⟩ D E M F G
theorem aJ.block {id:Nat} {c:Code} {H:sZ Γ} (h:aJ C N c H):aJ C N (.block id c) (λπ st K=>H π st λe F f=>match e with | .exit j=>if j=id then K .normal F f else K (.exit j) F f | .normal=>K .normal F f | .ret=>K .ret F f):=by
 intro π st K σ M w Q Y Z R hg O W J;refine wpIn_block (h π st _ σ M w _ (aEF Y) Z R hg O W λe F f σ' T w' E D B G z=>?_)
 cases e with
 |normal=>exact J _ _ _ _ _ _ E D B G z
 |ret=>exact J _ _ _ _ _ _ E D B G z
 |exit j=>
  simp only [aVO,Exit.inBlock];simp only at E;split
  ·rename_i h;rw [if_pos h] at E;exact J .normal _ _ _ _ _ E D B G z
  ·rename_i h;rw [if_neg h] at E;exact J (.exit j) _ _ _ _ _ E D B G z
theorem aJ.loop {c:Code} {H:sZ Γ} (h:aJ C N c H):aJ C N (.loop c) (λπ st K=>∃(α:Type) (I:α->Prop) (F:α->St) (G:α->Γ) (m:α->Nat),(∃a,I a/\View C.n0 st (F a)/\G a=π)/\
 ∀a,I a->H (G a) (F a) λe W D=>match e with | .normal=>∃E,I E/\View C.n0 D (F E)/\G E=W/\m E<m a | .exit id=>K (.exit id) W D | .ret=>K .ret W D):=by
 rintro π st K σ z w Q hq ⟨U,R,Z,f,J,hrel⟩ af hg hb ⟨α,I,F,G,m,⟨a,ha,hv,hπ⟩,B⟩ hQ;obtain⟨σ1,r1,c1,g1⟩:= @View.rel _ U N ⟨R.map cV⟩ _ _ _ hv _ _ _ hrel _ _ _ C.hz hg;refine mU (λj z w=>∃a σ,m a=j/\I a/\aXH C.U0 C.X C.w0 N σ (F a) z w/\jW (F a).sl/\cU C.O0 C.σ0 C.w0 C.n0 σ (F a).so w (F a).nx/\C.Bk (G a) w) (m a) ⟨a,σ1,rfl,ha,⟨U,R,Z,f,J,r1⟩,c1,g1,hπ▸hb⟩ ?_;rintro j z w ⟨a,σ,rfl,ha,r,cl,g,hb⟩
 refine h (G a) (F a) _ σ z w _ (kG hq) r cl g hb (B a ha) λe W D σ' ae w' hk O T Y M=>?_
 cases e with
 |normal=> obtain⟨E,aa,ac,ad,ab⟩:=hk;obtain⟨U,R,Z,f,J,hrel⟩:=O;obtain⟨σ2,r2,c2,g2⟩:= @View.rel _ U N ⟨R.map cV⟩ _ _ _ ac _ _ _ hrel _ _ _ C.hz Y;exact⟨m E,ab,E,σ2,rfl,aa,⟨U,R,Z,f,J,r2⟩,c2,g2,ad▸M⟩
 |exit id=>exact hQ _ _ _ _ _ _ hk O T Y M
 |ret=>exact hQ _ _ _ _ _ _ hk O T Y M
theorem aJ.yld {id:Nat} {ops:Array Oper} {e:List iZ} (H:cW P ops N ops.toList=some e)(Y:kQ [] e=true)(W:kN (.region id ops false)=true) {l:Nat} {Rd:Rnd Γ}
 (hy:kV C l Rd) (j:Nat) (B:List Nat):aJ C N (.region id ops false) (λπ st K=>aHV P l Rd j e π st λπ' z=>K .normal π' ⟨clean B z.sl,z.so,z.nx⟩):=by
 rintro π st K σ J w Q hq ⟨U,Mk,M,G,f,hrel⟩ T hg O hK hQ
 letI:qE:=⟨Mk.map cV⟩
 refine wpIn_region ?_;rw [zG,<-zE];refine aRB (λb O=>M.1 b (C.hX b O)) C.hXO C.hBk (hy _ _ U M) hq (nM W) ops.toList j e 0 [] σ st J w π (by simp) H Y hrel (λd s hm g hg=>by rw [T _ hm] at hg;cases hg) hg O hK λπ' σ' z F w' hk Z g' gx R=>?_
 refine hQ .normal π' _ σ' F w' hk ⟨U,Mk,M,G,λD E=>⟨(f D E).1,(f D E).2.1,?_⟩,Z.clean B⟩ (λp hp=>(eA hp).2) g' R;refine(gx.keep.block D (hrel.rel.ulim D (f D E).1) λhO=>?_).trans (f D E).2.2;exact hO.elim (f D E).2.1 λhO=>hrel.rel.disj D hO (f D E).1
end
end Go.Sk
