/- Caches. -/
import Derived.Test.YtmhapcbjjpadnaaGreatK4c
set_option linter.all false
open Array renaming getD_eq_getD_getElem?→zA,getElem?_eq_getElem→zE,length_toList→zH,replicate→zJ,getElem?_setIfInBounds_self_of_lt→zK,getElem?_setIfInBounds_ne→zM,getElem?_append_left→zR,mapM_eq_mapM_toList→zU
open Bool renaming and_eq_true→zC,not_eq_true'→zL
open List renaming mem_cons_of_mem→zD,getElem?_cons_zero→zF,getElem?_eq_getElem→zG,range_eq_range'→zO,getD_eq_getElem?_getD→zP,getElem?_append_right→zQ,getElem?_append_left→zT,cons_append→zW,range'_append_1→yA,replicate→yC,length_append→yD,isEmpty_iff→yE,range'→yF
open Nat renaming zero_add→zI,le_of_ble_eq_true→zN,ble_eq→zS,lt_of_not_le→zV,eq_of_beq_eq_true→zY,le_refl→zZ,zero_le→yG
open Option renaming map_eq_some_iff→zX
namespace Go.Sk
open Go Go.RowKit
variable [gL]
section fold
variable {X:Type}
def bY(wr:Rec->Option X):(Nat->Bool)->List Rec->X->X
 |_,[],x=>x
 |D,r::rs,x=>bY wr (λi=>D (i+1)) rs (match D 0 with |true=>(wr r).getD x |false=>x)
theorem jM {wr:Rec->Option X} :∀ {rs:List Rec} {D:Nat->Bool} {x:X},(∀(j:Nat) r,rs[j]? =some r->D j=true->wr r=none)->bY wr D rs x=x
 | [],_,_,_=>rfl
 |r::rs,D,x,h=>by
  simp only [bY];rw [jM λj m f e=>h (j+1) m (by simpa using f) e]
  cases e:D 0 with
  |true=>simp [h 0 r rfl e]
  |false=>rfl
theorem fR {wr:Rec->Option X} :∀ {rs:List Rec} {D D':Nat->Bool} {x:X},(∀(j:Nat) r,rs[j]? =some r->wr r≠none->D j=D' j)->bY wr D rs x=bY wr D' rs x
 | [],_,_,_,_=>rfl
 |r::rs,D,D',x,h=>by
  simp only [bY];rw [fR (D':=λi=>D' (i+1)) λj z m f=>h (j+1) z (by simpa using m) f]
  congr 1
  by_cases e:wr r=none
  ·simp only [e,Option.getD_none];cases D 0 <;> cases D' 0 <;> rfl
  ·rw [h 0 r rfl e]
theorem qL {wr:Rec->Option X} :∀ {rs:List Rec} {D:Nat->Bool} {x:X} {i:Nat} {r:Rec},rs[i]? =some r->D i=false->(wr r≠none->∀(j:Nat) e,rs[j]? =some e->i<j->D j=true->wr e=none)->
 bY wr (λj=>j==i||D j) rs x=(wr r).getD (bY wr D rs x)
 | [],_,_,i,_,hi,_,_=>by simp at hi
 |q::rs,D,x,0,r,hi,f,h=>by
  simp only [zF,zse] at hi;subst hi;have e1:bY wr (λj=>j==0||D j) (q::rs) x=bY wr (λi=>D (i+1)) rs ((wr q).getD x):=by simp only [bY];simp
  have C:bY wr D (q::rs) x=bY wr (λi=>D (i+1)) rs x:=by simp only [bY,f]
  rw [e1,C]
  cases B:wr q with
  |none=>rfl
  |some v=>exact jM λj e z m=>h (by simp [B]) (j+1) e (by simpa using z) (by omega) m
 |q::rs,D,x,i+1,r,hi,f,h=>by
  have :=qL (wr:=wr) (rs:=rs) (D:=λj=>D (j+1)) (x:=match D 0 with |true=>(wr q).getD x |false=>x) (i:=i) (r:=r) (by simpa using hi) f λB j e z E m=>h B (j+1) e (by simpa using z) (by omega) m
  simp only [bY];rw [<-this]
  congr 1
  funext j
  simp
theorem aD2 {wr:Rec->Option X} :∀ {rs:List Rec} {D:Nat->Bool} {x:X},bY wr D rs x=x\/∃(j:Nat) (r:Rec) (v:X),rs[j]? =some r/\D j=true/\wr r=some v/\bY wr D rs x=v
 | [],_,_=>.inl rfl
 |q::rs,D,x=>by
  simp only [bY];rcases aD2 (wr:=wr) (rs:=rs) (D:=λi=>D (i+1)) (x:=match D 0 with |true=>(wr q).getD x |false=>x) with h | ⟨j,r,v,e,h2,f,h4⟩
  ·rw [h]
   cases m:D 0 with
   |false=>exact .inl rfl
   |true=>
    cases z:wr q with
    |none=>exact .inl rfl
    |some v=>exact .inr ⟨0,q,v,rfl,m,z,rfl⟩
  ·exact .inr ⟨j+1,r,v,by simpa using e,h2,f,h4⟩
end fold
def wrS(t:Nat)(r:Rec):Option (Option SV):=if r.d=some t then some (some r.s) else none
def wrO(k:Nat)(r:Rec):Option (Option Obj):=if k∈r.ids then some (r.S1.get k) else none
theorem aMT {t:Nat} {r:Rec} (h:wrS t r≠none):r.d=some t:=by
 unfold wrS at h;split at h
 ·assumption
 ·exact absurd rfl h
theorem aMS {t:Nat} {r:Rec} (h:wrO t r≠none):t∈r.ids:=by
 unfold wrO at h;split at h
 ·assumption
 ·exact absurd rfl h
section
variable {P:Program} {N n:Nat}
theorem aNU [qE] {ops:Array Oper} :∀(l:List iZ) (C:List Nat) (B:List Oper) (st:St) (K:List Rec->St->Prop),cW P ops N B=some l->nY P l C st K->(∀m∈C,m+16<=n)->
 ∃e f,K e f/\e.length=B.length/\C.length=B.length/\(∀t,eI f.sl t=bY (wrS t) (λ_=>true) e (eI st.sl t))/\(∀k,f.so.get k=bY (wrO k) (λ_=>true) e (st.so.get k))/\f.nx=st.nx/\
  ∀(j:Nat) r o m,e[j]? =some r->B[j]? =some o->C[j]? =some m->aS8 r m/\∃J Z,(∀d s,(d,s)∈J->d∈r.rd/\bY (wrS d) (λi=>decide (i<j)) e (eI st.sl d)=some s)/\
   (∀S:aD,(∀k∈r.T,S.get k=bY (wrO k) (λi=>decide (i<j)) e (st.so.get k))->iT S r.T=Z)/\Loc P N n ops o r J Z:=by
 intro l
 induction l with
 |nil=>
  intro C B st K D E _
  cases C with
  |cons=>exact E.elim
  |nil=>
   cases B with
   |nil=>exact⟨[],st,E,rfl,rfl,λ_=>rfl,λ_=>rfl,rfl,λj r o m h=>by simp at h⟩
   |cons o B=> simp only [cW] at D;split at D <;> cases D
 |cons x l ih=>
  intro C B st K D E F;obtain⟨d,g,i⟩:=x
  cases C with
  |nil=>exact E.elim
  |cons m C=>
   cases B with
   |nil=>simp [cW] at D
   |cons o B=>
    simp only [cW] at D;split at D
    ·rename_i i' g' d' l' h1 h2 h3 h4;obtain⟨hx,rfl⟩:=List.cons.inj (zsi D);obtain⟨rfl,rfl,rfl⟩:=iZ.mk.inj hx;simp only [nY] at E;obtain⟨r,E,hd,W,J,G,H⟩:=aVI (n:=n) (ops:=ops) E h1 h2 h3 (F m (by simp));obtain⟨e,f,q1,q2,q3,q4,q5,q6,q7⟩:=ih C B _ _ h4 E λm z=>F m (zD _ z);have eS:∀t,eI (tE st.sl r.d r.s) t=(wrS t r).getD (eI st.sl t):=λt=>by rw [aO6];unfold wrS;split <;> rfl
     have eO:∀k,(aC0 st.so r.S1 r.ids).get k=(wrO k r).getD (st.so.get k):=λk=>by rw [oM];unfold wrO;split <;> rfl
     refine⟨r::e,f,q1,by simp [q2],by simp [q3],λt=>?_,λk=>?_,q6,λj r' o' m' Q Y z=>?_⟩
     ·rw [q4 t];simp only [bY,eS]
     ·rw [q5 k];simp only [bY,eO]
     ·cases j with
      |zero=>
       simp only [zF,zse] at Q Y z;subst Q Y z;refine⟨W,J,_,λd s F=>⟨(G d s F).1,?_⟩,λS hS=>aEA λk R=>?_,H⟩
       ·rw [jM λj r _ h=>by simp at h];exact(G d s F).2
       ·rw [hS k R,jM λj r _ h=>by simp at h]
      |succ j=>
       obtain⟨a1,M,O,a2,a3,a4⟩:=q7 j r' o' m' (by simpa using Q) (by simpa using Y) (by simpa using z);refine⟨a1,M,O,λd s F=>⟨(a2 d s F).1,?_⟩,λS hS=>a3 S λk R=>?_,a4⟩
       ·rw [<-(a2 d s F).2];simp only [bY,eS];simp
       ·rw [hS k R];simp only [bY,eO];simp
    ·cases D
end
def lB(o:Oper):List Nat:=(o.after.toList.filter (Region.binds .any)).map (·.on)
def aXQ(an:List (List Nat))(i:Nat):List Nat->Bool
 | []=>false
 |p::r=>(Nat.beq i p||jB i (an.getD p []))||aXQ an i r
def aSB(an:List (List Nat))(pr:List Nat):List Nat->Bool
 | []=>true
 |i::r=>aXQ an i pr&&aSB an pr r
def aKW(an:List (List Nat)):List Oper->List (List Nat)->Nat->Bool
 |o::os,a::as,j=>aGD j (lB o)&&(aSB an (lB o) a&&aKW an os as (j+1))
 | [],[],_=>true
 |_,_,_=>false
def bL6:List Nat->List Nat->List Nat
 | [],l=>l
 |a::r,l=>if jB a l then bL6 r l else bL6 r (a::l)
def aXO(acc:List (List Nat)):List Nat->List Nat->List Nat
 | [],l=>l
 |p::r,l=>if jB p l then aXO acc r l else aXO acc r (p::bL6 (acc.getD p []) l)
def bDL:List (List Nat)->List (List Nat)->List (List Nat)
 | [],acc=>acc
 |e::r,acc=>bDL r (acc++ [aXO acc e.reverse []])
def iI(b:Nat):Nat->List Nat
 |0=> []
 |c+1=>b::iI (b+16) c
def shM(d:Nat):List Nat->List Nat
 | []=> []
 |m::r=>(m+d)::shM d r
theorem aDT(d:Nat):∀(c b:Nat),shM d (iI b c)=iI (b+d) c
 |0,_=>rfl
 |c+1,b=>by simp only [iI,shM,aDT d c];rw [show b+16+d=b+d+16 by omega]
theorem mH:∀ {c b j:Nat},(iI b c)[j]? =if j<c then some (b+16*j) else none
 |0,_,_=>by simp [iI]
 |c+1,b,0=>by simp [iI]
 |c+1,b,j+1=>by
  simp only [iI,List.getElem?_cons_succ,mH]
  by_cases h:j<c
  ·rw [if_pos h,if_pos (by omega)];congr 1;omega
  ·rw [if_neg h,if_neg (by omega)]
theorem aJ3 {e:List (List Nat)} {i:Nat} :∀ {l:List Nat},aXQ e i l=true->∃p∈l,i=p\/i∈e.getD p []
 | [],h=>by simp [aXQ] at h
 |p::r,h=>by
  simp only [aXQ,Bool.or_eq_true] at h;rcases h with (h |h)|h
  ·exact⟨p,by simp,.inl (zY h)⟩
  ·exact⟨p,by simp,.inr (hY.1 h)⟩
  ·obtain⟨q,f,h2⟩:=aJ3 h;exact⟨q,zD _ f,h2⟩
theorem aGE {e:List (List Nat)} {f:List Nat} :∀ {l:List Nat},aSB e f l=true->∀i∈l,∃p∈f,i=p\/i∈e.getD p []
 | [],_,i,h=>by simp at h
 |a::r,h,i,hi=>by
  simp only [aSB,zC] at h;rcases List.mem_cons.1 hi with rfl |hi
  ·exact aJ3 h.1
  ·exact aGE h.2 i hi
theorem aCP {z:List (List Nat)} :∀ {e:List Oper} {as:List (List Nat)} {k:Nat},aKW z e as k=true->as.length=e.length/\∀(j:Nat) o a,e[j]? =some o->as[j]? =some a->(∀p∈lB o,p<k+j)/\∀i∈a,∃p∈lB o,i=p\/i∈z.getD p []
 | [],[],_,_=>⟨rfl,λj o a h=>by simp at h⟩
 | [],_::_,_,h=>by simp [aKW] at h
 |_::_,[],_,h=>by simp [aKW] at h
 |o::e,a::as,k,h=>by
  simp only [aKW,zC] at h;obtain⟨E,h2,F⟩:=h;obtain⟨h4,h5⟩:=aCP F;refine⟨by simp [h4],λj H B m f=>?_⟩
  cases j with
  |zero=> simp only [zF,zse] at m f;subst m f;exact⟨aAH E,aGE h2⟩
  |succ j=> obtain⟨C,D⟩:=h5 j H B (by simpa using m) (by simpa using f);exact⟨λp G=>by have :=C p G;omega,D⟩
theorem aB5 {r:Rec} {i:Nat} :∀ {rs:List Rec} {f:List (List Nat)},aFM r i rs f=true->∀(j:Nat) e a,rs[j]? =some e->f[j]? =some a->(i∈a/\qY e.d r.cs=true)\/indep r e=true
 | [],_,_,j,e,a,h,_=>by simp at h
 |_::_,[],_,j,e,a,_,h=>by simp at h
 |q::rs,b::f,h,j,e,a,B,m=>by
  simp only [aFM,zC] at h
  cases j with
  |zero=>
   simp only [zF,zse] at B m;subst B m
   cases z:jB i b with
   |true=>rw [z] at h;exact .inl ⟨hY.1 z,h.1⟩
   |false=>rw [z] at h;exact .inr h.1
  |succ j=>exact aB5 h.2 j e a (by simpa using B) (by simpa using m)
theorem aAN:∀ {rs:List Rec} {f:List (List Nat)} {k:Nat},nX rs f k=true->∀(i j:Nat) r e a,i<j->rs[i]? =some r->rs[j]? =some e->f[j]? =some a->(k+i∈a/\qY e.d r.cs=true)\/indep r e=true
 | [],_,_,_,i,j,r,e,a,_,h,_,_=>by simp at h
 |_::_,[],_,_,i,j,r,e,a,_,_,_,h=>by simp at h
 |q::rs,b::f,k,h,i,j,r,e,a,B,hi,z,m=>by
  simp only [nX,zC] at h
  cases j with
  |zero=>omega
  |succ j=>
   cases i with
   |zero=> simp only [zF,zse] at hi;subst hi;simpa using aB5 h.1 j e a (by simpa using z) (by simpa using m)
   |succ i=>
    have :=aAN h.2 i j r e a (by omega) (by simpa using hi) (by simpa using z) (by simpa using m)
    rwa [show k+1+i=k+(i+1) by omega] at this
structure aG6(r r':Rec):Prop where
 d1:∀x∈r'.rd,r.d≠some x
 d2:∀x∈r.rd,r'.d≠some x
 d3:∀t,r.d=some t->r'.d≠some t
 o1:∀k∈r.ids,k∉r'.T
 o2:∀k∈r.ids,k∉r'.ids
 o3:∀k∈r'.ids,k∉r.T
 o4:∀k∈r'.ids,¬(r.m<=k/\k<r.m+16)
theorem aH6 {r j:Rec} (h:indep r j=true):aG6 r j:=by simp only [indep,zC] at h;obtain⟨m,h2,f,h4,h5,z,B⟩:=h;refine⟨oK m,oK h2,λt C e=>?_,rT h4,rT h5,rT z,aAJ B⟩;rw [C,e] at f;simp at f
def qU:bA->List Nat
 | []=> []
 | (d,_)::r=>d::qU r
end Go.Sk
namespace Go.Sk
open Go Go.RowKit
variable [gL]
section
variable {P:Program} {N:Nat}
theorem aIQ.of [qE] {U:Nat->Prop} {σ:Sg} {st:St} {e:Act} {w:World} (h:bJ U N σ st e w):aIQ U N σ (eI st.sl) st.so st.nx e w:= ⟨h.rel,h.sz,h.df,λd s f=>h.sl d s (gZ f)⟩
theorem bJ.of_keep [qE] {U:Nat->Prop} {σ:Sg} {st:St} {e:Act} {w w':World} (h:bJ U N σ st e w)(j:cG (λ_=>False) w w'):bJ U N σ st e w':=by
 refine⟨h.rel.of_keep j,h.sz,h.df,λd s z=>?_⟩;have g:=bP.of_keep (σ:=σ) (S:=st.so) (n:=st.nx) j;have :=h.sl d s z;unfold SVR at this⊢;split
 ·rename_i f;rw [f] at this;exact this.grow g
 ·rename_i B r f;rw [f] at this;exact⟨this.1,λm=>⟨(this.2.1 m).1,(this.2.1 m).2.grow g⟩,this.2.2⟩
def unl(n:Nat)(listed:Array Bool):List Nat:=(List.range n).filter λi=> !listed.getD i true
theorem aUQ {n i:Nat} {e:Array Bool} (B:e.size=n)(hi:e.getD i true=false):(unl n (e.setIfInBounds i true)).length< (unl n e).length:=by
 have f:i<n:=by apply zV;intro m;rw [zA,Array.getElem?_eq_none (by omega)] at hi;simp at hi
 have :unl n (e.setIfInBounds i true)=(unl n e).filter λj=>j != i:=by
  unfold unl;rw [List.filter_filter];apply List.filter_congr;intro j z
  by_cases h:j=i
  ·subst h;simp [zA,zK (show j<e.size by omega)]
  ·simp [h,zA,zM (Ne.symm h)]
 rw [this,List.length_filter_lt_length_iff_exists];exact⟨i,List.mem_filter.2 ⟨List.mem_range.2 f,by rw [hi];rfl⟩,by simp⟩
theorem vP {o:Oper} {p:Nat} :p∈lB o↔∃e∈o.after,Region.binds .any e=true/\e.on=p:=by simp [lB,and_assoc]
theorem aE4 [qE] {U:Nat->Prop} {id:Nat} {ops:Array Oper} {l:List iZ} {an:List (List Nat)} {b0 n:Nat} (hm:P.follows .mixedOrders=true)(bq:cW P ops N ops.toList=some l)(bu:aKW an ops.toList an 0=true)(hn:b0+16*ops.size=n)
 {σ0:Sg} {B:St} {ad:Act} {J:World} (aq:bJ U N σ0 B ad J) (bv:∀p∈B.sl,p.2.ch=[]) (b3:B.nx<=b0) {K:St->Prop}
 (hK:nY P l (iI b0 ops.size) ⟨B.sl,B.so,n⟩ λz aa=>nX z an 0=true/\K ⟨look aa.sl (qU aa.sl),aa.so,aa.nx⟩) {Q:Exit->Act->World->Prop}
 (hQ:∀σ' ar ac w',K ar->bJ U N σ' ar ac w'->bP σ0 B.so J B.nx σ' ar.so w' ar.nx->Q .normal ac w'):(Code.region id ops true).wp P Q ad J:=by
 refine wp_region_any hm ?_;have bn:cG (λ_=>False) J { J with drawn:=J.drawn+1 } :=⟨rfl,rfl,rfl,zZ _,λ_ _ _=>rfl⟩
 have W:=aq.of_keep bn;have bm:bP σ0 B.so J B.nx σ0 B.so { J with drawn:=J.drawn+1 } n:=by have g:=bP.of_keep (σ:=σ0) (S:=B.so) (n:=B.nx) bn;exact⟨g.keep,g.own,g.sg,by omega⟩
 generalize({ J with drawn:=J.drawn+1 } :World)=w0 at W bm⊢
 obtain⟨z,aa,⟨a5,bs⟩,ay,-,bh,bf,a0,az⟩:=aNU (n:=n) (ops:=ops) l (iI b0 ops.size) ops.toList _ _ bq hK (λm ab=>by
  obtain⟨j,E⟩:=List.getElem?_of_mem ab;rw [mH] at E;split at E
  ·obtain rfl:=zsi E;omega
  ·cases E)
 simp only at bh bf a0 az;have ay:=ay.trans zH;obtain⟨aw,bl⟩:=aCP bu;have aw:=aw.trans zH
 have Y:∀i o,ops[i]? =some o->∃r a,z[i]? =some r/\an[i]? =some a/\i<ops.size/\(∀p∈lB o,p<i)/\(∀k∈a,∃p∈lB o,k=p\/k∈an.getD p [])/\aS8 r (b0+16*i)/\∃SL SO,(∀d s,(d,s)∈SL->d∈r.rd/\bY (wrS d) (λj=>decide (j<i)) z (eI B.sl d)=some s)/\
  (∀S:aD,(∀k∈r.T,S.get k=bY (wrO k) (λj=>decide (j<i)) z (B.so.get k))->iT S r.T=SO)/\Loc P N n ops o r SL SO:=by
  intro i o ho;have hi:i<ops.size:=(Array.getElem?_eq_some_iff.1 ho).1;have hr:=zG (l:=z) (i:=i) (by omega);have ha:=zG (l:=an) (i:=i) (by omega);have ag:ops.toList[i]? =some o:=by simpa using ho
  obtain⟨e1,e2⟩:=bl i o _ ag ha;obtain⟨e3,e4⟩:=az i _ o (b0+16*i) hr ag (by rw [mH,if_pos hi]);exact⟨_,_,hr,ha,hi,λp hp=>by have :=e1 p hp;omega,e2,e3,e4⟩
 have av:∀ {D:Nat->Bool},(∀j o,ops[j]? =some o->D j=true->∀p∈lB o,D p=true)->∀j,j<ops.size->D j=true->∀a,an[j]? =some a->∀i∈a,D i=true:=by
  intro D hD j
  induction j using Nat.strongRecOn with
  |_ j ih=>
   intro E C a ha i hi;have ho:=zE E;obtain⟨r,a',-,bt,-,e1,e2,-⟩:=Y j _ ho;obtain rfl:a=a':=zsi (ha.symm.trans bt);obtain⟨p,hp,h⟩:=e2 i hi;have bd:=hD j _ ho C p hp;have b1:=e1 p hp;rcases h with rfl |h
   ·exact bd
   ·have ae:=zG (l:=an) (i:=p) (by omega);rw [zP,ae] at h;exact ih p b1 (by omega) bd _ ae i h
 have au:∀(i j:Nat) r H a,i<j->z[i]? =some r->z[j]? =some H->an[j]? =some a->(i∈a/\qY H.d r.cs=true)\/aG6 r H:=λi j r H a bz hi E ha=>by
  rcases aAN a5 i j r H a bz hi E ha with h |h
  ·exact .inl (by simpa using h)
  ·exact .inr (aH6 h)
 have br:∀(O:Nat) (f:Array Bool) (M:Act) (w:World),f.size=ops.size->(unl ops.size f).length<=O->
  (∃σ S,(∀k,S.get k=bY (wrO k) (λi=>f.getD i false) z (B.so.get k))/\aIQ U N σ (λt=>bY (wrS t) (λi=>f.getD i false) z (eI B.sl t)) S n M w/\bP σ0 B.so J B.nx σ S w n/\
   (∀i q,i<ops.size->f.getD i false=false->q<16->σ (b0+16*i+q)=none)/\(∀j o,ops[j]? =some o->f.getD j false=true->∀p∈lB o,f.getD p false=true))->
  wpAny P .any ops Q O f M w:=by
  have tf:∀(f:Array Bool),f.size=ops.size->∀i,i<ops.size->f.getD i true=f.getD i false:=λf hs i hi=>by rw [zA,zA,zE (by omega)];rfl
  have done:∀(f:Array Bool) (M:Act) (w:World),f.size=ops.size->Region.ready .any ops f=[]->(∃σ S,(∀k,S.get k=bY (wrO k) (λi=>f.getD i false) z (B.so.get k))/\aIQ U N σ (λt=>bY (wrS t) (λi=>f.getD i false) z (eI B.sl t)) S n M w/\bP σ0 B.so J B.nx σ S w n)->Q .normal M w:=by
   intro f M w hs hr ⟨σ,S,hS,hrel,hg⟩
   have bj:∀i,i<ops.size->f.getD i false=true:=by
    intro i
    induction i using Nat.strongRecOn with
    |_ i ih=>
     intro hi;have ho:=zE hi;obtain⟨r,a',-,-,-,e1,-⟩:=Y i _ ho
     cases hd:f.getD i false with
     |true=>rfl
     |false=> have :i∈Region.ready .any ops f:=mem_ready.2 ⟨by rw [tf f hs i hi];exact hd,_,ho,λe he hb=>by have hp:=e1 e.on (vP.2 ⟨e,he,hb,rfl⟩);exact ih e.on hp (by omega)⟩;rw [hr] at this;cases this
   have cg:∀(j:Nat) r,z[j]? =some r->f.getD j false=true:=λj r E=>bj j (by have :=(List.getElem?_eq_some_iff.1 E).1;omega);have a4:∀k,S.get k=aa.so.get k:=λk=>by rw [hS k,bf k];exact fR λj r E _=>cg j r E
   refine hQ σ _ M w bs ⟨?_,hrel.sz,hrel.df,λd s ab=>?_⟩ ?_
   ·simp only;rw [a0];exact hrel.rel.congr λk=>(a4 k).symm
   ·have hs:=(mP ab).2;rw [bh d] at hs;have :=hrel.sl d s (by rw [<-hs];exact fR λj r E _=>cg j r E)
    have hO:Own U σ S=Own U σ aa.so:=by
     funext b
     unfold Own fD;simp only [a4]
    rw [hO] at this;exact this
   ·simp only;rw [a0];refine⟨hg.keep,λb hb hO=>hg.own b hb ?_,hg.sg,hg.nx⟩;obtain⟨k,o,es,cap,Z,h2⟩:=hO;exact⟨k,o,es,cap,by rw [a4];exact Z,h2⟩
  intro O
  induction O with
  |zero=>
   rintro f M w hs hf ⟨σ,S,Z,h2,h3,-⟩;have hu:unl ops.size f=[]:=List.length_eq_zero_iff.1 (by omega);have hr:Region.ready .any ops f=[]:=by rw [List.eq_nil_iff_forall_not_mem];intro i hi;obtain⟨a1,o,a2,-⟩:=mem_ready.1 hi;have :i∈unl ops.size f:=List.mem_filter.2 ⟨List.mem_range.2 (Array.getElem?_eq_some_iff.1 a2).1,by rw [a1];rfl⟩;rw [hu] at this;cases this
   exact⟨hr,done f M w hs hr ⟨σ,S,Z,h2,h3⟩⟩
  |succ O ih=>
   intro f M w hs hf ⟨σ,S,Z,h2,h3,h4,h5⟩;refine⟨λhr=>done f M w hs hr ⟨σ,S,Z,h2,h3⟩,λi hi=>?_⟩;obtain⟨a1,o,ho,a3⟩:=mem_ready.1 hi;obtain⟨r,a,hr,ha,ax,e1,e2,e3,SL,SO,e4,e5,e6⟩:=Y i o ho;have R:f.getD i false=false:=by rw [<-tf f hs i ax];exact a1
   have ah:∀p∈lB o,f.getD p false=true:=λp hp=>by obtain⟨e,he,hb,rfl⟩:=vP.1 hp;exact a3 e he hb
   have bk:∀j∈a,f.getD j false=true:=λj E=>by
    obtain⟨p,hp,h⟩:=e2 j E;have b4:=e1 p hp;rcases h with rfl |h
    ·exact ah _ hp
    ·have ae:=zG (l:=an) (i:=p) (by omega);rw [zP,ae] at h;exact av h5 p (by omega) (ah p hp) _ ae j h
   have G:∀(j:Nat) H,z[j]? =some H->(j<i/\((f.getD j false=true/\qY r.d H.cs=true)\/aG6 H r))\/j=i\/(i<j/\(f.getD j false=false\/aG6 r H)):=by
    intro j H E;rcases Nat.lt_trichotomy j i with h |h |h
    ·left;refine⟨h,?_⟩;rcases au j i H r a h E hr ha with ⟨Z,h2⟩|Z
     ·exact .inl ⟨bk j Z,h2⟩
     ·exact .inr Z
    ·exact .inr (.inl h)
    ·right;right;refine⟨h,?_⟩;have af:j<ops.size:=by have :=(List.getElem?_eq_some_iff.1 E).1;omega
     have bi:=zG (l:=an) (i:=j) (by omega);rcases au i j r H _ h hr E bi with ⟨Z,h2⟩|Z
     ·left
      cases hd:f.getD j false with
      |false=>rfl
      |true=>rw [av h5 j af hd _ bi i Z] at R;cases R
     ·exact .inr Z
   have ao:∀d∈r.rd,bY (wrS d) (λj=>f.getD j false) z (eI B.sl d)=bY (wrS d) (λj=>decide (j<i)) z (eI B.sl d):=by
    intro d hd;refine fR λj H E hw=>?_;have al:=aMT hw;rcases G j H E with ⟨h,F |F⟩|h | ⟨h,F |F⟩
    ·rw [F.1];simp [h]
    ·exact absurd al (F.d1 d hd)
    ·subst h;rw [R];simp
    ·rw [F];simp;omega
    ·exact absurd al (F.d2 d hd)
   have am:∀k∈r.T,bY (wrO k) (λj=>f.getD j false) z (B.so.get k)=bY (wrO k) (λj=>decide (j<i)) z (B.so.get k):=by
    intro k hk;refine fR λj H E hw=>?_;have al:=aMS hw;rcases G j H E with ⟨h,F |F⟩|h | ⟨h,F |F⟩
    ·rw [F.1];simp [h]
    ·exact absurd hk (F.o1 k al)
    ·subst h;rw [R];simp
    ·rw [F];simp;omega
    ·exact absurd hk (F.o3 k al)
   have bp:r.m=b0+16*i:=e3.m;unfold wpOp;simp only [ho]
   have step:=e6 U σ _ S M w (λac w'=>wpAny P .any ops Q O (f.setIfInBounds i true) ac w') Q h2 (λd s ab=>by rw [ao d (e4 d s ab).1];exact(e4 d s ab).2)
    (e5 S λk hk=>by rw [Z k];exact am k hk) (λq hq=>⟨?_,by rw [bp];exact h4 i q ax R hq⟩) (λt s ht x hx hd=>?_) λσ' cv w' a7 bw b2=>?_
   ·split
    ·rename_i hw;rw [if_pos hw] at step;exact .inl step
    ·rename_i hw;rw [if_neg hw] at step;exact step
   ·rw [Z,jM λj H E C=>?_]
    ·exact(W.rel.fresh _ (by omega)).1
    ·unfold wrO;rw [if_neg];intro hk;have af:j<ops.size:=by have :=(List.getElem?_eq_some_iff.1 E).1;omega
     obtain⟨a8,-,ai,-,-,-,-,a6,-⟩:=Y j _ (zE af);obtain rfl:H=a8:=zsi (E.symm.trans ai);have bo:=a6.ids _ hk;rcases G j H E with ⟨h,-⟩|h | ⟨h,F |F⟩
     ·omega
     ·subst h;rw [R] at C;cases C
     ·rw [F] at C;cases C
     ·exact F.o4 _ hk ⟨by omega,by omega⟩
   ·rcases aD2 (wr:=wrS t) (rs:=z) (D:=λj=>f.getD j false) (x:=eI B.sl t) with h | ⟨j,H,v,E,C,hv,hF⟩
    ·rw [h] at ht;have :=bv _ (gZ ht);simp only at this;rw [this] at hx;cases hx
    ·rw [hF] at ht;unfold wrS at hv;split at hv
     ·obtain rfl:=zsi hv;obtain rfl:=zsi ht;have af:j<ops.size:=by have :=(List.getElem?_eq_some_iff.1 E).1;omega
      obtain⟨a8,-,ai,-,-,-,-,a6,-⟩:=Y j _ (zE af);obtain rfl:H=a8:=zsi (E.symm.trans ai);obtain⟨c1,c2⟩:=a6.cs x hx;rcases G j H E with ⟨h,F |F⟩|h | ⟨h,F |F⟩
      ·exact oK F.2 _ c1 hd
      ·exact F.d2 _ c2 hd
      ·subst h;rw [R] at C;cases C
      ·rw [F] at C;cases C
      ·exact F.d1 _ c2 hd
     ·cases hv
   ·
    have ak:∀j,(f.setIfInBounds i true).getD j false=(j==i||f.getD j false):=λj=>by
     by_cases h:j=i
     ·subst h;rw [zA,zK (by omega)];simp
     ·rw [zA,zM (Ne.symm h),<-zA];simp [h]
    have bc:(λj=>(f.setIfInBounds i true).getD j false)=λj=>j==i||f.getD j false:=funext ak
    have ba:∀t,bY (wrS t) (λj=>(f.setIfInBounds i true).getD j false) z (eI B.sl t)=if r.d=some t then some r.s else bY (wrS t) (λj=>f.getD j false) z (eI B.sl t):=λt=>by
     rw [bc,qL hr R λhw j H E bo C=>?_]
     ·unfold wrS;split <;> rfl
     ·rcases G j H E with ⟨h,-⟩|h | ⟨h,F |F⟩
      ·omega
      ·omega
      ·rw [F] at C;cases C
      ·unfold wrS;rw [if_neg (F.d3 t (aMT hw))]
    have a9:∀k,bY (wrO k) (λj=>(f.setIfInBounds i true).getD j false) z (B.so.get k)=if k∈r.ids then r.S1.get k else bY (wrO k) (λj=>f.getD j false) z (B.so.get k):=λk=>by
     rw [bc,qL hr R λhw j H E bo C=>?_]
     ·unfold wrO;split <;> rfl
     ·rcases G j H E with ⟨h,-⟩|h | ⟨h,F |F⟩
      ·omega
      ·omega
      ·rw [F] at C;cases C
      ·unfold wrO;rw [if_neg (F.o2 k (aMS hw))]
    refine ih _ _ w' (by simp [hs]) (by have :=aUQ hs a1;omega) ⟨σ',_,λk=>?_,?_,h3.trans bw,λi' q bx ap hq=>?_,λj o' ag C p hp=>?_⟩
    ·rw [oM,a9 k,Z k]
    ·have :(λt=>bY (wrS t) (λj=>(f.setIfInBounds i true).getD j false) z (eI B.sl t))=λt=>if r.d=some t then some r.s else bY (wrS t) (λj=>f.getD j false) z (eI B.sl t):=funext ba
     rw [this];exact a7
    ·rw [ak] at ap;simp only [Bool.or_eq_false_iff,zbn] at ap;rw [b2 _ (by rw [bp];have :=ap.1;omega)];exact h4 i' q bx ap.2 hq
    ·rw [ak] at C⊢;simp only [Bool.or_eq_true,zbe] at C⊢;right;rcases C with rfl |C
     ·obtain rfl:o=o':=zsi (ho.symm.trans ag);exact ah p hp
     ·exact h5 j o' ag C p hp
 have aj:∀(i:Nat),(zJ ops.size false).getD i false=false:=λi=>by rw [zA,Array.getElem?_replicate];split <;> rfl
 refine br ops.size _ ad w0 (by simp) ?_ ⟨σ0,B.so,λk=>?_,?_,bm,λi q hi _ _=>(W.rel.fresh _ (by omega)).2,λj o ho hD=>by rw [aj] at hD;cases hD⟩
 ·exact Nat.le_trans (List.length_filter_le _ _) (by simp)
 ·rw [jM λj r _ h=>by rw [aj] at h;cases h]
 ·have :(λt=>bY (wrS t) (λi=>(zJ ops.size false).getD i false) z (eI B.sl t))=eI B.sl:=funext λt=>jM λj r _ h=>by rw [aj] at h;cases h
  rw [this];have :=aIQ.of W;exact⟨this.rel.wider (by omega),this.sz,this.df,this.sl⟩
end
end Go.Sk
namespace Go.Sk
open Go Go.RowKit
variable [gL]
inductive RC where
 |skip
 |reg (l:List iZ) (kill:List Nat)
 |dreg (b0 n:Nat) (l:List iZ) (kill:List Nat) (an:List (List Nat)) (ms:List Nat)
 |seq (a b:RC)
 |cut (a b:RC)
 |regc (a b:List iZ) (kill:List Nat)
 |regv (a:List iZ) (d:Nat) (b:List iZ) (kill:List Nat)
 |cond (c:A) (a b:RC)
 |block (id:Nat) (c:RC)
 |loop (c:RC)
 |uloop (c:RC)
 |exit (id:Nat)
 |ret
 |bad
inductive Ex where
 |normal
 |exit (id:Nat)
 |ret
def aVO:Ex->Exit
 | .normal=>.normal
 | .exit id=>.exit id
 | .ret=>.ret
def clean(kill:List Nat):bA->bA
 | []=> []
 | (d,s)::r=>match s.ch with
   | []=>if jB d kill=true then clean kill r else(d,s)::clean kill r
   |_::_=>clean kill r
theorem eA {e:List Nat} :∀ {l:bA} {p:Nat×SV},p∈clean e l->p∈l/\p.2.ch=[]
 | [],_,h=>by simp [clean] at h
 | (d,s)::r,p,h=>by
   simp only [clean] at h;split at h
   ·rename_i f;split at h
    ·have :=eA h;exact⟨zD _ this.1,this.2⟩
    ·rcases List.mem_cons.1 h with rfl |h
     ·exact⟨by simp,f⟩
     ·have :=eA h;exact⟨zD _ this.1,this.2⟩
   ·have :=eA h;exact⟨zD _ this.1,this.2⟩
def aCJ(sl:bA)(S:aD)(ids:List (Option Nat)):bA->Prop
 | []=>True
 | (d,s)::r=>s.ch=[]/\vw2 S ids (bR sl [] (.t d)) s.v/\aCJ sl S ids r
def View(n0:Nat)(st st':St):Prop:= ∃ids obs,st'.so=aI 0 obs/\st'.nx=obs.length/\pN st.so ids ids obs/\sF ids=true/\oW 0 n0 ids/\Nat.ble n0 obs.length=true/\aCJ st.sl st.so ids st'.sl
def bEM(st:St)(d:Nat)(K:St->Prop):Prop:=
 match eI st.sl d with
 |some ⟨[],gc,.sl k off len⟩=>match st.so.get k with
  |some (.row _ _)=>∀c,len<=c->c<=9223372036854775807->K ⟨aFD st.sl d ⟨[],gc,.slk k off len c⟩,st.so,st.nx⟩
  |_=>False
 |_=>False
def uF(f:St->(Ex->St->Prop)->Prop)(K:Ex->St->Prop):Nat->St->Prop
 |0,_=>False
 |n+1,st=>f st λe st'=>match e with
  | .normal=>uF f K n st'
  | .exit id=>K (.exit id) st'
  | .ret=>K .ret st'
def dF(P:Program)(n0:Nat):RC->St->(Ex->St->Prop)->Prop
 | .skip,st,K=>K .normal st
 | .reg l kill,st,K=>sH P l st λst'=>K .normal ⟨clean kill st'.sl,st'.so,st'.nx⟩
 | .dreg b0 n l kill an ms,st,K=>match Nat.ble st.nx b0 with
   |true=>nY P l ms ⟨st.sl,st.so,n⟩ λrecs stF=>nX recs an 0=true/\K .normal ⟨clean kill (look stF.sl (qU stF.sl)),stF.so,stF.nx⟩
   |false=>nY P l (shM st.nx ms) ⟨st.sl,st.so,n+st.nx⟩ λrecs stF=>nX recs an 0=true/\K .normal ⟨clean kill (look stF.sl (qU stF.sl)),stF.so,stF.nx⟩
 | .seq a b,st,K=>dF P n0 a st λe st'=>match e with
   | .normal=>dF P n0 b st' K
   | .exit id=>K (.exit id) st'
   | .ret=>K .ret st'
 | .regc a b kill,st,K=>∃(α:Type) (I:α->Prop) (F:α->St),(sH P a st λst'=>∃x,I x/\View n0 st' (F x))/\∀x,I x->sH P b (F x) λst'=>K .normal ⟨clean kill st'.sl,st'.so,st'.nx⟩
 | .regv a d b kill,st,K=>∃(α:Type) (I:α->Prop) (F:α->St),(sH P a st λst'=>bEM st' d λst''=>∃x,I x/\View n0 st'' (F x))/\∀x,I x->sH P b (F x) λst'=>K .normal ⟨clean kill st'.sl,st'.so,st'.nx⟩
 | .cut a b,st,K=>∃(α:Type) (I:α->Prop) (F:α->St),(dF P n0 a st λe st'=>match e with
   | .normal=>∃x,I x/\View n0 st' (F x)
   | .exit id=>K (.exit id) st'
   | .ret=>K .ret st')/\∀x,I x->dF P n0 b (F x) K
 | .cond c a b,st,K=>match bR st.sl [] c with
   | .bool x=>(x=true->dF P n0 a st K)/\(x=false->dF P n0 b st K)
   |_=>False
 | .block id c,st,K=>dF P n0 c st λe st'=>match e with
   | .exit j=>if j=id then K .normal st' else K (.exit j) st'
   | .normal=>K .normal st'
   | .ret=>K .ret st'
 | .loop c,st,K=>∃(α:Type) (I:α->Prop) (F:α->St) (m:α->Nat),(∃a,I a/\View n0 st (F a))/\∀a,I a->dF P n0 c (F a) λe st'=>match e with
   | .normal=>∃a',I a'/\View n0 st' (F a')/\m a'<m a
   | .exit id=>K (.exit id) st'
   | .ret=>K .ret st'
 | .uloop c,st,K=>∃n,uF (dF P n0 c) K n st
 | .exit id,st,K=>K (.exit id) st
 | .ret,st,K=>K .ret st
 | .bad,_,_=>False
def dK(P:Program)(N:Nat):Code->Option RC
 | .skip=>some .skip
 | .region _ ops false=>match cW P ops N ops.toList with
   |some l=>if kQ [] l=true then some (.reg l []) else none
   |none=>some .bad
 | .region id ops true=>match cW P ops N ops.toList with
   |some l=>if P.follows .mixedOrders=true/\aKW (bDL (ops.toList.map lB) []) ops.toList (bDL (ops.toList.map lB) []) 0=true then some (.dreg (1024*(id+1)) (1024*(id+1)+16*ops.size) l [] (bDL (ops.toList.map lB) []) (iI (1024*(id+1)) ops.size)) else none
   |none=>some .bad
 | .seq a b=>match dK P N a,dK P N b with
   |some a,some b=>some (.seq a b)
   |_,_=>none
 | .cond c a b=>match bK c,dK P N a,dK P N b with
   |some c,some a,some b=>some (.cond c a b)
   |_,_,_=>none
 | .block id c=>(dK P N c).map (.block id)
 | .loop c=>(dK P N c).map .loop
 | .exit id=>some (.exit id)
 | .ret=>some .ret
 |_=>some .bad
def strip:RC->RC
 | .reg l _=>.reg l []
 | .dreg b0 n l _ an ms=>.dreg b0 n l [] an ms
 | .seq a b=>.seq (strip a) (strip b)
 | .cut a b=>.seq (strip a) (strip b)
 | .regc a b _=>.reg (a++b) []
 | .regv a _ b _=>.reg (a++b) []
 | .cond c a b=>.cond c (strip a) (strip b)
 | .block id c=>.block id (strip c)
 | .uloop c=>.loop (strip c)
 | .loop c=>.loop (strip c)
 |c=>c
def jW(sl:bA):Prop:=∀p∈sl,p.2.ch=[]
section
variable {P:Program} {U:Nat->Prop} {N:Nat}
theorem iW [qE] {ops:Array Oper} {Q:Exit->Act->World->Prop} {rest:List Nat} :∀(l:List Oper) (f:List iZ) (k:Nat) (G:List Nat) (σ:Sg) (st:St) (B:Act) (w:World),(∀j,j<l.length->l[j]? =ops[k+j]?)->cW P ops N l=some f->kQ G f=true->
 bJ U N σ st B w->GIn st.sl G->∀ {KF:St->Prop},sH P f st KF->
 (∀σ' E C w',KF E->bJ U N σ' E C w'->bP σ st.so w st.nx σ' E.so w' E.nx->wpOps P ops Q rest C w')->wpOps P ops Q (yF k l.length++rest) B w:=by
 intro l
 induction l with
 |nil=> intro f k G σ st B w _ J _ hrel _ KF O hQ;simp only [cW,zse] at J;subst J;exact hQ σ st B w O hrel (bP.refl _ _ _ _)
 |cons o r ih=>
  intro f k G σ st B w hl J aa hrel hG KF O hQ;simp only [cW] at J;split at J
  ·rename_i i g d m h1 h2 h3 h4;obtain rfl:=zsi J;have ho:ops[k]? =some o:=by simpa using(hl 0 (by simp)).symm
   simp only [sH] at O;split at O
   ·rename_i ch gc e;simp only [kQ,zC] at aa;obtain⟨ac,z⟩:=aa;rw [List.length_cons,List.range'_succ,zW,wpOps_cons];unfold wpOp;simp only [ho]
    obtain⟨F,ah,T,ai,ab⟩:∃F,(∀x∈G,x∈F)/\(∀x∈ch,x.1∈F)/\(∀M,d=some M->M∉F)/\kQ F m=true:=by
     have W:∀M,d=some M->M∉G:=λM D=>by subst D;simpa using ac
     cases hg:g with
     |none=> subst hg;simp only [guardOf,zse,Prod.mk.injEq] at e;obtain⟨rfl,rfl⟩:=e;exact⟨G,λx h=>h,by simp,W,z⟩
     |some gb=>
      obtain⟨gd,b⟩:=gb;subst hg;simp only [zC,bne_iff_ne,ne_eq] at z;refine⟨gd::G,λx h=>zD _ h,λx R=>?_,λM D Z=>?_,z.2⟩
      ·simp only [guardOf] at e;split at e
       ·rename_i s hs;split at e
        ·simp only [zse,Prod.mk.injEq] at e;obtain⟨rfl,-⟩:=e;rcases List.mem_cons.1 R with rfl |R
         ·simp
         ·exact zD _ (hG gd s (gZ hs) x R)
        ·split at e
         ·simp only [zse,Prod.mk.injEq] at e;obtain⟨rfl,-⟩:=e;rcases List.mem_cons.1 R with rfl |R
          ·simp
          ·exact zD _ (hG gd s (gZ hs) x R)
         ·cases e
        ·cases e
       ·cases e
      ·rcases List.mem_cons.1 Z with rfl |Z
       ·exact z.1 D
       ·exact W M D Z
    have ag:GIn st.sl F:=λd s Z g hg=>ah _ (hG d s Z g hg)
    have step:=aBL (P:=P) (Q:=Q) hrel (zZ _) (λi _=>hrel.rel.fresh _ (by omega)) h1 h2 h3 e ag ai T (KF:=λv S n=>sH P m ⟨tE st.sl d ⟨ch,gc,v⟩,S,n⟩ KF) (next:=λC w'=>wpOps P ops Q (yF (k+1) r.length++rest) C w') O
     (λσ' v S' n1 cv w' hk aj ad g Y _=>by
      rw [Nat.max_eq_right aj] at ad g
      exact ih m (k+1) F σ' _ _ w' (λj hj=>by have :=hl (j+1) (by simpa using hj);simpa [Nat.add_assoc,Nat.add_comm 1 j] using this) h4 ab ad Y hk
       λam af H al ak ae g'=>hQ am af H al ak ae (g.trans g'))
    split
    ·rename_i hw;rw [if_pos hw] at step;exact .inl step
    ·rename_i hw;rw [if_neg hw] at step;exact step
   ·cases O
  ·cases J
theorem kO [qE] {ops:Array Oper} {Q:Exit->Act->World->Prop} (l:List Oper)(f:List iZ)(k:Nat)(G:List Nat)(σ:Sg)(st:St)(z:Act)(w:World)(J:∀j,l[j]? =ops[k+j]?)(M:cW P ops N l=some f)(B:kQ G f=true)
 (hrel:bJ U N σ st z w) (E:GIn st.sl G) {KF:St->Prop} (F:sH P f st KF)
 (H:∀σ' m e w',KF m->bJ U N σ' m e w'->bP σ st.so w st.nx σ' m.so w' m.nx->Q .normal e w'):wpOps P ops Q (yF k l.length) z w:=by
 have :=iW (rest:= []) l f k G σ st z w (λj _=>J j) M B hrel E F (Q:=Q) λσ' m e w' C h2 D=>H σ' m e w' C h2 D
 rwa [List.append_nil] at this
theorem jQ {ops:Array Oper} :∀(a:List iZ) (l:List Oper) (b:List iZ),cW P ops N l=some (a++b)->∃f j,l=f++j/\cW P ops N f=some a/\cW P ops N j=some b
 | [],l,b,h=>⟨[],l,rfl,rfl,h⟩
 |x::a,[],b,h=>by simp [cW] at h
 |x::a,o::r,b,h=>by
  simp only [cW] at h;split at h
  ·rename_i i g d l' z h2 B h4;simp only [zW,zse,List.cons.injEq] at h;obtain⟨C,h⟩:=h;subst C;obtain⟨f,j,e,e1,m⟩:=jQ a r b (h▸h4);exact⟨o::f,j,by rw [e];rfl,by simp only [cW,z,h2,B,e1],m⟩
  ·cases h
theorem aAU:∀(b:List iZ) (G e:List Nat),(∀x∈G,x∈e)->kQ e b=true->kQ G b=true
 | [],_,_,_,_=>rfl
 |i::r,G,e,j,h=>by
  simp only [kQ,zC] at h⊢;refine⟨?_,?_⟩
  ·have f:=h.1;split at f
   ·rename_i d z;simp only [zL,List.contains_eq_mem,zdn] at f⊢;exact λB=>f (j _ B)
   ·rfl
  ·have h2:=h.2;split at h2
   ·simp only [zC] at h2⊢
    exact⟨h2.1,aAU r _ _ (λx m=>by
     rcases List.mem_cons.1 m with rfl |m
     ·exact List.mem_cons_self
     ·exact zD _ (j x m)) h2.2⟩
   ·exact aAU r _ _ j h2
theorem kR:∀(a b:List iZ) (G:List Nat),kQ G (a++b)=true->kQ G a=true/\kQ [] b=true
 | [],b,G,h=>⟨rfl,aAU b [] G (λx e=>by cases e) h⟩
 |i::r,b,G,h=>by
  simp only [zW,kQ,zC] at h⊢;have h2:=h.2;split at h2
  ·simp only [zC] at h2;obtain⟨k1,k2⟩:=kR r b _ h2.2;exact⟨⟨h.1,by simp only [zC];exact⟨h2.1,k1⟩⟩,k2⟩
  ·obtain⟨k1,k2⟩:=kR r b _ h2;exact⟨⟨h.1,k1⟩,k2⟩
theorem bJ.clean [qE] {σ:Sg} {st:St} {e:Act} {w:World} (h:bJ U N σ st e w)(f:List Nat):bJ U N σ ⟨Sk.clean f st.sl,st.so,st.nx⟩ e w:= ⟨h.rel,h.sz,h.df,λd s j=>h.sl d s (eA j).1⟩
theorem uZ {sl:bA} {S:aD} {ids:List (Option Nat)} :∀ {l:bA},aCJ sl S ids l->∀d s,(d,s)∈l->s.ch=[]/\vw2 S ids (bR sl [] (.t d)) s.v
 | [],_,_,_,h=>by simp at h
 | (j,q)::r,hv,d,s,h=>by
   obtain⟨e,h2,f⟩:=hv;rcases List.mem_cons.1 h with h |h
   ·obtain⟨rfl,rfl⟩:=Prod.mk.inj h;exact⟨e,h2⟩
   ·exact uZ f d s h
theorem aDK [qE] {σ:Sg} {st:St} {e:Act} {w:World} (h:bJ U N σ st e w)(d:Nat):VR (Own U σ st.so) w σ (bR st.sl [] (.t d)) (e.tmps.getD d undef):= iC (x:=.tmp d) h (ch:= []) (λg hg=>by cases hg) rfl
theorem View.rel [qE] {n0:Nat} {st e:St} (hv:View n0 st e) {σ:Sg} {f:Act} {w:World} (h:bJ U N σ st f w) {σ0:Sg} {O0:Nat->Prop} {w0:World} (hz:∀k,n0<=k->σ0 k=none)(hg:cU O0 σ0 w0 n0 σ st.so w st.nx):
 ∃σ',bJ U N σ' e f w/\jW e.sl/\cU O0 σ0 w0 n0 σ' e.so w e.nx:=by
 obtain⟨ids,F,m,h2,z,B,C,D,G⟩:=hv;have h4:=oJ B;have h5:∀j,j<n0->ids[j]? =some (some j):=λj W=>by have :=mK n0 0 ids C j W;rwa [zI] at this
 have Q:=zN D;refine⟨rJ σ ids F,⟨by rw [m,h2];exact h.rel.view z h4,h.sz,h.df,λd s Z=>?_⟩,λp hp=>(uZ G p.1 p.2 hp).1,⟨hg.keep,λb R H=>?_,λk J=>?_,by rw [h2];exact Q⟩⟩
 ·obtain⟨T,E⟩:=uZ G d s Z;unfold SVR;rw [T,m];exact aS0 h.rel z E (aDK h d)
 ·rw [m] at H;obtain⟨j,k,p,es,cap,-,M,O⟩:=jO z H;exact hg.own b R ⟨k,p,es,cap,M,O⟩
 ·rw [<-hg.sg k J];simp [rJ,h5 k (zV λY=>J (hz k Y))]
theorem bV {c:Code} {rc:RC} (h:dK P N c=some rc):match rc with
 | .skip=>c=.skip
 | .reg l _=>∃id ops,c=.region id ops false/\cW P ops N ops.toList=some l/\kQ [] l=true
 | .dreg b0 n l _ m D=>∃id ops,c=.region id ops true/\cW P ops N ops.toList=some l/\P.follows .mixedOrders=true/\aKW m ops.toList m 0=true/\b0+16*ops.size=n/\D=iI b0 ops.size
 | .seq a b=>∃x y,c=.seq x y/\dK P N x=some a/\dK P N y=some b
 | .cut _ _=>True
 | .regc _ _ _=>True
 | .regv _ _ _ _=>True
 | .cond B a b=>∃z x y,c=.cond z x y/\bK z=some B/\dK P N x=some a/\dK P N y=some b
 | .block id b=>∃x,c=.block id x/\dK P N x=some b
 | .loop b=>∃x,c=.loop x/\dK P N x=some b
 | .uloop _=>True
 | .exit id=>c=.exit id
 | .ret=>c=.ret
 | .bad=>True:=by
 cases c with
 |skip=>simp only [dK,zse] at h;subst h;rfl
 |region id ops draw=>
  cases draw with
  |true=>
   simp only [dK] at h;split at h
   ·rename_i l j;split at h
    ·rename_i e;obtain rfl:=zsi h;exact⟨id,ops,rfl,j,e.1,e.2,rfl,rfl⟩
    ·cases h
   ·cases h;trivial
  |false=>
   simp only [dK] at h;split at h
   ·rename_i l j;split at h
    ·rename_i e;obtain rfl:=zsi h;exact⟨id,ops,rfl,j,e⟩
    ·cases h
   ·cases h;trivial
 |seq x y=>
  simp only [dK] at h;split at h
  ·rename_i f h2;obtain rfl:=zsi h;exact⟨x,y,rfl,f,h2⟩
  ·cases h
 |cond z x y=>
  simp only [dK] at h;split at h
  ·rename_i C f h2;obtain rfl:=zsi h;exact⟨z,x,y,rfl,C,f,h2⟩
  ·cases h
 |block id x=> simp only [dK,zX] at h;obtain⟨b,f,rfl⟩:=h;exact⟨x,rfl,f⟩
 |loop x=> simp only [dK,zX] at h;obtain⟨b,f,rfl⟩:=h;exact⟨x,rfl,f⟩
 |exit id=>simp only [dK,zse] at h;subst h;rfl
 |ret=>simp only [dK,zse] at h;subst h;rfl
 |_=>simp only [dK,zse] at h;subst h;trivial
theorem aK5 [qE] {σ:Sg} {st:St} {act:Act} {w:World} (h:bJ U N σ st act w) {d:Nat} {K:St->Prop} (hK:bEM st d K):∃st',K st'/\bJ U N σ st' act w/\st'.so=st.so/\st'.nx=st.nx:=by
 unfold bEM at hK;split at hK
 ·rename_i gc k off len hg;split at hK
  case h_2=>exact hK.elim
  rename_i es0 xs0 hso;have hob:=h.rel.obj k _ hso;have hv:=h.sl d _ (gZ hg);unfold SVR at hv;simp only at hv
  have key:∃c,len<=c/\c<=9223372036854775807/\VR (Own U σ st.so) w σ (.slk k off len c) (act.tmps.getD d undef):=by
   generalize act.tmps.getD d undef=v at hv
   cases hv with
   | @sl _ _ _ _ b es cap a hs hle ha=> rw [hs] at hob;obtain⟨-,-,hcap,-⟩:=hob;exact⟨cap-off,by omega,by omega,.slk hs hle ha rfl⟩
   |sl0 hs=>exact⟨0,zZ _,by omega,.slk0 hs⟩
  obtain⟨c,hc,hc2,hv'⟩:=key;refine⟨_,hK c hc hc2,⟨h.rel,h.sz,h.df,λt q hq=>?_⟩,rfl,rfl⟩;rcases qW hq with hq | ⟨-,hm⟩
  ·obtain⟨rfl,rfl⟩:=Prod.mk.inj hq;exact hv'
  ·exact h.sl t q hm
 ·exact hK.elim
theorem rR [qE] {n0:Nat} {σ0:Sg} {O0:Nat->Prop} {w0:World} (hz:∀k,n0<=k->σ0 k=none):∀(rc:RC) (c:Code) (st:St) (K:Ex->St->Prop) (σ:Sg) (z:Act) (w:World) (Q:Exit->Act->World->Prop),dK P N c=some (strip rc)->
 bJ U N σ st z w->jW st.sl->cU O0 σ0 w0 n0 σ st.so w st.nx->dF P n0 rc st K->
 (∀e E σ' C w',K e E->bJ U N σ' E C w'->jW E.sl->cU O0 σ0 w0 n0 σ' E.so w' E.nx->Q (aVO e) C w')->c.wp P Q z w:=by
 intro rc
 induction rc with
 |skip=> intro c st K σ z w Q f hrel D hg M H;have R:=bV f;simp only [strip] at R;subst R;exact wp_skip (H .normal st σ z w M hrel D hg)
 |reg l O=> intro c st K σ z w Q f hrel D hg M H;obtain⟨id,Y,rfl,hl,ab⟩:=bV f;refine wp_region ?_;simp only [dF] at M;rw [zO,<-zH];exact kO Y.toList l 0 [] σ st z w (by simp) hl ab hrel (λd s Z g hg=>by rw [D _ Z] at hg;cases hg) M λσ' E C w' G B g=> H .normal _ σ' C w' G (B.clean O) (λp hp=>(eA hp).2) (hg.trans g)
 |dreg b0 n l O an ms=>
  intro c st K σ z w Q f hrel D hg M H;obtain⟨id,Y,rfl,hl,Z,aj,hn,rfl⟩:=bV f;simp only [dF] at M;split at M
  ·rename_i hb;exact aE4 Z hl aj hn hrel D (zN hb) (K:=λE=>K .normal ⟨clean O E.sl,E.so,E.nx⟩) M λσ' E C w' G B g=> H .normal _ σ' C w' G (B.clean O) (λp hp=>(eA hp).2) (hg.trans g)
  ·rw [aDT] at M;exact aE4 (b0:=b0+st.nx) Z hl aj (by omega) hrel D (Nat.le_add_left _ _) (K:=λE=>K .normal ⟨clean O E.sl,E.so,E.nx⟩) M λσ' E C w' G B g=> H .normal _ σ' C w' G (B.clean O) (λp hp=>(eA hp).2) (hg.trans g)
 |seq a b ac ad=>
  intro c st K σ z w Q f hrel D hg M H;obtain⟨x,y,rfl,R,h2⟩:=bV f;refine wp_seq (ac x st _ σ z w _ R hrel D hg M λe E σ' C w' G B J T=>?_)
  cases e with
  |normal=>exact ad y E K σ' C w' Q h2 B J T G H
  |exit id=>exact H _ _ _ _ _ G B J T
  |ret=>exact H _ _ _ _ _ G B J T
 |regc a b O=>
  intro c st K σ z w Q f hrel D hg M H;obtain⟨id,Y,rfl,hl,ab⟩:=bV (rc:=.reg (a++b) []) f;obtain⟨α,I,F,hA,hB⟩:=M;refine wp_region ?_;obtain⟨l1,l2,e,e1,e2⟩:=jQ a _ b hl;obtain⟨ah,ai⟩:=kR a b _ ab;rw [zO,<-zH,e,yD,<-yA,zI];have W:∀j:Nat,(l1++l2)[j]? =Y[j]? :=λj=>by rw [<-e];simp
  have R:l1.length<=Y.toList.length:=by rw [e];simp
  refine iW (P:=P) l1 a 0 [] σ st z w (λj hj=>by rw [zI,<-W,zT hj]) e1 ah hrel (λd s Z g hg=>by rw [D _ Z] at hg;cases hg) hA λσ' E C w' G B g=>?_
  ·obtain⟨u,hu,hv⟩:=G;obtain⟨σ2,r2,c2,g2⟩:=hv.rel B hz (hg.trans g);exact kO l2 b l1.length [] σ2 (F u) C w' (λj=>by rw [<-W,zQ (by omega)];simp) e2 ai r2 (λd s Z g hg=>by rw [c2 _ Z] at hg;cases hg) (hB u hu) λσ3 aq aa w3 af ag g3=> H .normal _ σ3 aa w3 af (ag.clean O) (λp hp=>(eA hp).2) (g2.trans g3)
 |regv a d b O=>
  intro c st K σ z w Q f hrel D hg M H;obtain⟨id,Y,rfl,hl,ab⟩:=bV (rc:=.reg (a++b) []) f;obtain⟨α,I,F,hA,hB⟩:=M;refine wp_region ?_;obtain⟨l1,l2,e,e1,e2⟩:=jQ a _ b hl;obtain⟨ah,ai⟩:=kR a b _ ab;rw [zO,<-zH,e,yD,<-yA,zI];have W:∀j:Nat,(l1++l2)[j]? =Y[j]? :=λj=>by rw [<-e];simp
  have R:l1.length<=Y.toList.length:=by rw [e];simp
  refine iW (P:=P) l1 a 0 [] σ st z w (λj hj=>by rw [zI,<-W,zT hj]) e1 ah hrel (λd s Z g hg=>by rw [D _ Z] at hg;cases hg) hA λσ' E C w' G B g=>?_
  ·obtain⟨ar,al,ao,es,en⟩:=aK5 B G;obtain⟨u,hu,hv⟩:=al;obtain⟨σ2,r2,c2,g2⟩:=hv.rel ao hz (by rw [es,en];exact hg.trans g);exact kO l2 b l1.length [] σ2 (F u) C w' (λj=>by rw [<-W,zQ (by omega)];simp) e2 ai r2 (λd s Z g hg=>by rw [c2 _ Z] at hg;cases hg) (hB u hu) λσ3 aq aa w3 af ag g3=> H .normal _ σ3 aa w3 af (ag.clean O) (λp hp=>(eA hp).2) (g2.trans g3)
 |cut a b ac ad=>
  intro c st K σ z w Q f hrel D hg M H;obtain⟨x,y,rfl,R,h2⟩:=bV (rc:=.seq (strip a) (strip b)) f;obtain⟨α,I,F,hA,hB⟩:=M;refine wp_seq (ac x st _ σ z w _ R hrel D hg hA λe E σ' C w' G B J T=>?_)
  cases e with
  |normal=> obtain⟨u,hu,hv⟩:=G;obtain⟨σ2,r2,c2,g2⟩:=hv.rel B hz T;exact ad y (F u) K σ2 C w' Q h2 r2 c2 g2 (hB u hu) H
  |exit id=>exact H _ _ _ _ _ G B J T
  |ret=>exact H _ _ _ _ _ G B J T
 |cond cc a b ac ad=>
  intro c st K σ z w Q f hrel D hg M H;obtain⟨cx,x,y,rfl,h0,R,h2⟩:=bV f;simp only [dF] at M;split at M
  ·rename_i t ht;have hv:=iC hrel (ch:= []) (λg hg=>by cases hg) h0
   rw [ht] at hv;generalize he:z.eval cx=v at hv;cases hv
   exact wp_cond_split he (λh=>ac x st K σ z w Q R hrel D hg (M.1 h) H) (λh=>ad y st K σ z w Q h2 hrel D hg (M.2 h) H)
  ·cases M
 |block id b ih=>
  intro c st K σ z w Q f hrel D hg M H;obtain⟨x,rfl,R⟩:=bV f;refine wp_block (ih x st _ σ z w _ R hrel D hg M λe E σ' C w' G B J T=>?_)
  cases e with
  |normal=>exact H _ _ _ _ _ G B J T
  |ret=>exact H _ _ _ _ _ G B J T
  |exit j=>
   simp only [aVO,Exit.inBlock];simp only at G;split
   ·rename_i h;rw [if_pos h] at G;exact H .normal _ _ _ _ G B J T
   ·rename_i h;rw [if_neg h] at G;exact H (.exit j) _ _ _ _ G B J T
 |loop b ih=>
  intro c st K σ z w Q f hrel D hg M H;obtain⟨x,rfl,R⟩:=bV f;obtain⟨α,I,F,m,⟨a,ha,hv⟩,ae⟩:=M;obtain⟨σ1,r1,c1,g1⟩:=hv.rel hrel hz hg;refine wp_loop_ghost (λn z w=>∃a σ,m a=n/\I a/\bJ U N σ (F a) z w/\jW (F a).sl/\cU O0 σ0 w0 n0 σ (F a).so w (F a).nx) (m a) ⟨a,σ1,rfl,ha,r1,c1,g1⟩ ?_;rintro n z w ⟨a,σ,rfl,ha,r,cl,g⟩;refine ih x (F a) _ σ z w _ R r cl g (ae a ha) λe E σ' C w' G B J T=>?_
  cases e with
  |normal=> obtain⟨a',ak,ap,am⟩:=G;obtain⟨σ2,r2,c2,g2⟩:=ap.rel B hz T;exact⟨m a',am,a',σ2,rfl,ak,r2,c2,g2⟩
  |exit id=>exact H _ _ _ _ _ G B J T
  |ret=>exact H _ _ _ _ _ G B J T
 |uloop b ih=>
  intro c st K σ z w Q f hrel D hg M H;obtain⟨x,rfl,R⟩:=bV (rc:=.loop (strip b)) f;obtain⟨k,G⟩:=M;refine wp_loop_ghost (λn z w=>∃st σ,uF (dF P n0 b) K n st/\bJ U N σ st z w/\jW st.sl/\cU O0 σ0 w0 n0 σ st.so w st.nx) k ⟨st,σ,G,hrel,D,hg⟩ ?_;rintro n z w ⟨st,σ,G,r,cl,g⟩
  cases n with
  |zero=>exact G.elim
  |succ n=>
   refine ih x st _ σ z w _ R r cl g G λe E σ' C w' G B J T=>?_
   cases e with
   |normal=>exact⟨n,Nat.lt_succ_self n,E,σ',G,B,J,T⟩
   |exit id=>exact H _ _ _ _ _ G B J T
   |ret=>exact H _ _ _ _ _ G B J T
 |bad=>intro c st K σ z w Q f hrel D hg M H;exact M.elim
 |exit id=> intro c st K σ z w Q f hrel D hg M H;have R:=bV f;simp only [strip] at R;subst R;exact wp_exit (H (.exit id) st σ z w M hrel D hg)
 |ret=> intro c st K σ z w Q f hrel D hg M H;have R:=bV f;simp only [strip] at R;subst R;exact wp_ret (H .ret st σ z w M hrel D hg)
inductive RV where
 |tmp (t:Nat)
 |cell (t:Nat) (agg:Bool) (n:Nat)
def jR(P:Program):ResultVar->Option RV
 | .tmp t=>some (.tmp t)
 | .cell a t=>match dD P t,bG P t with
   |some agg,some n=>if agg=true\/n=1 then some (.cell a agg n) else none
   |_,_=>none
def rvK(st:St):RV->(V->Prop)->Prop
 | .tmp t,K=>K (bR st.sl [] (.t t))
 | .cell t agg n,K=>gQ st.so (.ld agg n (.t t)) (bR st.sl []) true K
def aIX(st:St):List RV->(List V->Prop)->Prop
 | [],K=>K []
 |r::rs,K=>rvK st r λv=>aIX st rs λvs=>K (v::vs)
def aR9:List V->V
 | [v]=>v
 |vs=>.tup vs
def aMY(n0:Nat)(rvs:List RV)(res:V)(ob1:List Obj)(st:St):Prop:= aIX st rvs λvs=>∃ids,pN st.so ids ids ob1/\sF ids=true/\oW 0 n0 ids/\Nat.ble n0 ob1.length=true/\vw3 st.so ids (aR9 vs) res
def dV:Nat->List V->bA
 |_,[]=> []
 |k,v::r=>(k,⟨[],true,v⟩)::dV (k+1) r
theorem fF:∀ {vs:List V} {k:Nat} {p:Nat×SV},p∈dV k vs->∃i v,vs[i]? =some v/\p=(k+i,⟨[],true,v⟩)
 | [],_,_,h=>by simp [dV] at h
 |v::r,k,p,h=>by
  simp only [dV,List.mem_cons] at h;rcases h with rfl |h
  ·exact⟨0,v,rfl,rfl⟩
  ·obtain⟨i,u,e,rfl⟩:=fF h;exact⟨i+1,u,e,by rw [Nat.add_assoc,Nat.add_comm 1 i]⟩
def gR(P:Program)(n0:Nat)(rvs:List RV)(res:V)(ob1:List Obj):Ex->St->Prop
 | .normal,st=>aMY n0 rvs res ob1 st
 | .ret,st=>aMY n0 rvs res ob1 st
 | .exit _,_=>False
def aCC(tmps:Array Value):ResultVar->Sem Value
 | .tmp t=>pure (tmps.getD t undef)
 | .cell a t=>do loadVar t (<-asAddr (tmps.getD a undef))
theorem bB7 [qE] {σ:Sg} {st:St} {e:Act} {w:World} (h:bJ U N σ st e w) {x:ResultVar} {r:RV} (f:jR P x=some r) {K:V->Prop} (z:rvK st r K):
 ∃v cv,K v/\VR (Own U σ st.so) w σ v cv/\(aCC e.tmps x).run P w=.ok cv w:=by
 cases x with
 |tmp t=> simp only [jR,zse] at f;subst f;exact⟨_,_,z,aDK h t,rfl⟩
 |cell a t=>
  simp only [jR] at f;split at f
  ·rename_i agg n C h2;split at f
   ·rename_i D;obtain rfl:=zsi f;obtain⟨v,cv,E,G,j⟩:=aTW (P:=P) (ρ:=e.eval) (t:=t) (a:=.tmp a) (x:=.t a) C h2 D h.rel (aDK h a) z;refine⟨v,cv,E,G,?_⟩;have :=j w { (default:Oper) with op:=.load t (.tmp a) } rfl (aA3.refl w)
    simp only [execOp,Instr.loadAt,Act.eval] at this;generalize F:e.tmps.getD a undef=H at this;cases H <;> try(simp [Instr.sureAddr] at this;done)
    rename_i m
    cases m with
    |none=>simp [Instr.sureAddr] at this
    |some m=>
     simp only [Instr.sureAddr,pure_bind,Sem.run_bind,Sem.run_pure,Result.andThen_ok] at this;have hg:aCC e.tmps (.cell a t)=loadVar t m:=by unfold aCC;simp only [F];rfl
     show(aCC e.tmps (.cell a t)).run P w=.ok cv w;rw [hg]
     cases B:(loadVar t m).run P w with
     |ok x J=>rw [B] at this;simp only [Result.andThen_ok,Result.ok.injEq,Next.value.injEq] at this;obtain⟨rfl,rfl⟩:=this;rfl
     |halt x J=>rw [B] at this;simp at this
   ·cases f
  ·cases f
theorem rI [qE] {σ:Sg} {st:St} {m:Act} {w:World} (h:bJ U N σ st m w):∀(xs:List ResultVar) (rs:List RV) (_:xs.mapM (jR P)=some rs) (K:List V->Prop),aIX st rs K->
 ∃vs e,K vs/\vs.length=e.length/\(∀(i:Nat) v cv,vs[i]? =some v->e[i]? =some cv->VR (Own U σ st.so) w σ v cv)/\
  (xs.mapM (aCC m.tmps)).run P w=.ok e w
 | [],rs,f,K,C=>by rw [List.mapM_nil] at f;obtain rfl:=zsi f;exact⟨[],[],C,rfl,by simp,rfl⟩
 |x::xs,rs,f,K,C=>by
  rw [List.mapM_cons] at f
  cases B:jR P x with
  |none=>rw [B] at f;cases f
  |some r=>
   rw [B] at f
   cases h2:xs.mapM (jR P) with
   |none=>rw [h2] at f;cases f
   |some H=>
    rw [h2] at f;obtain rfl:=zsi f;obtain⟨v,cv,J,O,z⟩:=bB7 h B C;obtain⟨vs,e,E,M,G,j⟩:=rI h xs H h2 _ J;refine⟨v::vs,cv::e,E,by simp [M],λi u c F D=>?_,?_⟩
    ·cases i with
     |zero=>simp only [zF,zse] at F D;subst F D;exact O
     |succ i=>exact G i u c (by simpa using F) (by simpa using D)
    ·rw [List.mapM_cons];simp only [Sem.run_bind,z,Result.andThen_ok,j,Sem.run_pure]
theorem bGD {f:FuncId} {fn:Func} {rc:RC} {rvs:List RV} {ob0 z:List Obj} {args:List V} {H:V} (hf:P.funcs[f]? =some fn)(aa:fn.body.isSome=true)(E:dK P fn.ntmps (fn.body.getD .skip)=some (strip rc))
 (ab:fn.results.toList.mapM (jR P)=some rvs) (hn:args.length<=fn.ntmps)
 (hK:dF P ob0.length rc ⟨dV 0 args,aI 0 ob0,ob0.length⟩ (gR P ob0.length rvs H z)):aM P f ob0 args H z:=by
 letI:qE:=⟨[]⟩
 intro U σ w m hR hl ha;obtain⟨c,Z⟩:=Option.isSome_iff_exists.1 aa;have R:dK P fn.ntmps c=some (strip rc):=by rw [Z] at E;exact E
 refine calls_of_wp hf Z ?_
 have hrel:bJ U fn.ntmps σ ⟨dV 0 args,aI 0 ob0,ob0.length⟩ { tmps:=m++zJ (fn.ntmps-m.size) undef,defers:= [] } w:=by
  refine⟨hR,by simp;omega,rfl,λd s hm=>?_⟩;obtain⟨i,v,hv,he⟩:=fF hm;obtain⟨rfl,rfl⟩:=Prod.mk.inj he;obtain⟨hi,-⟩:=List.getElem?_eq_some_iff.1 hv;have hc:=zE (xs:=m) (i:=i) (by omega);unfold SVR;simp only [zI];have :(m++zJ (fn.ntmps-m.size) undef).getD i undef=m[i]:=by rw [zA,zR (by omega),hc];rfl
  rw [this];exact ha i v _ hv hc
 refine rR (λk M=>(hR.fresh k M).2) rc c _ _ σ _ w _ R hrel (λp hp=>by obtain⟨i,v,-,rfl⟩:=fF hp;rfl) (bP.refl _ _ _ _).toB hK λe af σ' B W M G ag g'=>?_
 have O:aMY ob0.length rvs H z af->B.defers=[]/\∃v,(results fn B.tmps).run P W=.ok v W/\(∃Y J,Ending.returned v=.returned Y/\aV U J (aI 0 z) W z.length/\VR (Own U J (aI 0 z)) W J H Y/\bP σ (aI 0 ob0) w ob0.length J (aI 0 z) W z.length):=by
  intro Q;obtain⟨vs,C,⟨ids,q1,ac,ad,ae,q5⟩,D,F,T⟩:=rI G _ rvs ab _ Q;have q2:=oJ ac;have q3:∀j,j<ob0.length->ids[j]? =some (some j):=λj hj=>by have :=mK _ 0 ids ad j hj;rwa [zI] at this
  have q4:=zN ae;refine⟨G.df,(if h:C.toArray.size=1 then C.toArray[0] else .tuple C.toArray),?_,_,rJ σ' ids z,rfl,G.rel.view q1 q2,?_,⟨g'.keep,λb Z hO=>?_,λk M=>?_,q4⟩⟩
  ·have he:results fn B.tmps=(do let vs<-fn.results.mapM (aCC B.tmps);pure (if h:vs.size=1 then vs[0] else .tuple vs)):=by
    unfold results
    congr 1
   rw [he,Sem.run_bind,zU];simp only [Sem.run_map,T,Result.andThen_ok,Sem.run_pure]
  ·refine aIL G.rel q1 q5 ?_
   match vs,C,D,F with
   | [v],[Y],_,F=>exact F 0 v Y rfl rfl
   | [],[],_,_=>exact .tup rfl (by simp)
   |v1::v2::vs,c1::c2::C,D,F=>
    have :¬((c1::c2::C).toArray.size=1):=by simp
    rw [dif_neg this];exact .tup (by simpa using D.symm) λi v c hv hc=>F i v c hv (by simpa using hc)
  ·obtain⟨j,k,p,es,cap,-,e2,e3⟩:=jO q1 hO;exact g'.own b Z ⟨k,p,es,cap,e2,e3⟩
  ·rw [<-g'.sg k M];simp [rJ,q3 k (zV λah=>M ((hR.fresh k ah).2))]
 cases e with
 |normal=>exact O M
 |ret=>exact O M
 |exit id=>exact M.elim
theorem aYJ {f:FuncId} {fn:Func} {rc:RC} {rvs:List RV} {ob0 z:List Obj} {args:List V} {H:V} (hf:P.funcs[f]? =some fn)(aa:fn.body.isSome=true)(E:dK P fn.ntmps (fn.body.getD .skip)=some (strip rc))
 (ab:fn.results.toList.mapM (jR P)=some rvs) (hn:args.length<=fn.ntmps)
 (hK:dF P 0 rc ⟨dV 0 args,aI 0 ob0,ob0.length⟩ (gR P 0 rvs H z)):FnM P f ob0 args H z:=by
 letI:qE:=⟨[]⟩
 intro U σ w m hR hl ha;obtain⟨c,Z⟩:=Option.isSome_iff_exists.1 aa;have R:dK P fn.ntmps c=some (strip rc):=by rw [Z] at E;exact E
 refine calls_of_wp hf Z ?_
 have hrel:bJ U fn.ntmps σ ⟨dV 0 args,aI 0 ob0,ob0.length⟩ { tmps:=m++zJ (fn.ntmps-m.size) undef,defers:= [] } w:=by
  refine⟨hR,by simp;omega,rfl,λd s hm=>?_⟩;obtain⟨i,v,hv,he⟩:=fF hm;obtain⟨rfl,rfl⟩:=Prod.mk.inj he;obtain⟨hi,-⟩:=List.getElem?_eq_some_iff.1 hv;have hc:=zE (xs:=m) (i:=i) (by omega);unfold SVR;simp only [zI];have :(m++zJ (fn.ntmps-m.size) undef).getD i undef=m[i]:=by rw [zA,zR (by omega),hc];rfl
  rw [this];exact ha i v _ hv hc
 refine rR (n0:=0) (σ0:=λ_=>none) (O0:=fD σ (aI 0 ob0)) (w0:=w) (λk M=>rfl) rc c _ _ σ _ w _ R hrel (λp hp=>by obtain⟨i,v,-,rfl⟩:=fF hp;rfl)
  ⟨cG.refl _ _,λ_ _ h=>h,λk M=>absurd rfl M,yG _⟩ hK λe ad σ' B W M G ae g'=>?_
 have O:aMY 0 rvs H z ad->B.defers=[]/\∃v,(results fn B.tmps).run P W=.ok v W/\(∃Y J,Ending.returned v=.returned Y/\aV U J (aI 0 z) W z.length/\VR (Own U J (aI 0 z)) W J H Y/\cU (fD σ (aI 0 ob0)) (λ_=>none) w 0 J (aI 0 z) W z.length):=by
  intro Q;obtain⟨vs,C,⟨ids,q1,ac,af,ag,q5⟩,D,F,T⟩:=rI G _ rvs ab _ Q;have q2:=oJ ac;refine⟨G.df,(if h:C.toArray.size=1 then C.toArray[0] else .tuple C.toArray),?_,_,rJ σ' ids z,rfl,G.rel.view q1 q2,?_,⟨g'.keep,λb Z hO=>?_,λk M=>absurd rfl M,yG _⟩⟩
  ·have he:results fn B.tmps=(do let vs<-fn.results.mapM (aCC B.tmps);pure (if h:vs.size=1 then vs[0] else .tuple vs)):=by
    unfold results
    congr 1
   rw [he,Sem.run_bind,zU];simp only [Sem.run_map,T,Result.andThen_ok,Sem.run_pure]
  ·refine aIL G.rel q1 q5 ?_
   match vs,C,D,F with
   | [v],[Y],_,F=>exact F 0 v Y rfl rfl
   | [],[],_,_=>exact .tup rfl (by simp)
   |v1::v2::vs,c1::c2::C,D,F=>
    have :¬((c1::c2::C).toArray.size=1):=by simp
    rw [dif_neg this];exact .tup (by simpa using D.symm) λi v c hv hc=>F i v c hv (by simpa using hc)
  ·obtain⟨j,k,p,es,cap,-,e2,e3⟩:=jO q1 hO;exact g'.own b Z ⟨k,p,es,cap,e2,e3⟩
 cases e with
 |normal=>exact O M
 |ret=>exact O M
 |exit id=>exact M.elim
end
theorem aM.vw {P:Program} {f:FuncId} {z:List Obj} {args:List V} {r D:V} (h:aM P f [] args r z)(hv:vw3 (aI 0 z) [] r D):aM P f [] args D []:=by intro U σ w m C M G;refine(h U σ w m C M G).mono λe R ⟨E,Q,H,B,O,g⟩=>⟨E,rJ Q [] [],H,B.view (ids:= []) trivial trivial,aIL B (ids:= []) (obs:= []) trivial hv O,⟨g.keep,λb _ F=>?_,λk J=>absurd (C.fresh k (yG _)).2 J,zZ _⟩⟩;obtain⟨j,k,p,es,cap,e1,-⟩:=jO (S:=aI 0 z) (ids:= []) (obs:= []) trivial F;cases e1
theorem aM.lstv {P:Program} {f:FuncId} {args:List V} {es:Nat} {e:List (List V)} (h:aM P f [] args (.sl 0 0 e.length) [.row es e]):aM P f [] args (.lst es false e) []:= h.vw ⟨rfl,rfl,by simp,by simp,rfl⟩
end Go.Sk
namespace Go.Sk
open Go Go.RowKit
variable [gL]
def rq(b:Bool)(K:Prop):Prop:=
 match b with
 |true=>K
 |false=>False
def gq(gc b:Bool)(K:Prop):Prop:=
 match gc with
 |true=>rq b K
 |false=>K
def gr(gc b:Bool)(K:Prop):Prop:=
 match b with
 |true=>K
 |false=>match gc with
  |true=>False
  |false=>K
theorem bJ7 {e b:Bool} {K:Prop} :gr e b K=((e=true->b=true)/\K):=by
 cases e <;> cases b <;> simp [gr]
theorem gI {b:Bool} {K:Prop} :rq b K=(b=true/\K):=by
 cases b <;> simp [rq]
theorem aQW {e b:Bool} {K:Prop} :gq e b K=((e=true->b=true)/\K):=by
 cases e <;> simp [gq,gI]
def aV6(n bytes:Nat):Bool:=Nat.ble n 9223372036854775807&&Nat.ble (n*bytes) 140737488355328
theorem aSC {n bytes:Nat} :(aV6 n bytes=true)=((n:Int)<=9223372036854775807/\n*bytes<=140737488355328):=by unfold aV6;rw [zC,zS,zS];exact propext ⟨λh=>⟨by omega,h.2⟩,λh=>⟨by omega,h.2⟩⟩
def mkB(bytes:Nat)(c:Int):Bool:=Nat.ble (bytes*c.toNat) 281474976710656&&Nat.ble c.toNat 9223372036854775807
theorem aR5 {bytes:Nat} {c:Int} (f:0<=c):(mkB bytes c=true)=((bytes:Int)*c<=281474976710656/\c<=9223372036854775807):=by
 unfold mkB;rw [zC,zS,zS];obtain⟨k,rfl⟩:=Int.eq_ofNat_of_zero_le f;rw [Int.toNat_natCast];have e:(bytes:Int)*(k:Int)=((bytes*k:Nat):Int):=by simp
 rw [e];exact propext ⟨λh=>⟨by omega,by omega⟩,λh=>⟨by omega,by omega⟩⟩
theorem aU7 {C K:Prop} [Decidable C]:rq (decide C) K=(C/\K):=by rw [gI,decide_eq_true_iff]
theorem aRS {b:Bool} {K:Prop} :rq (!b) K=(b=false/\K):=by rw [gI,zL]
theorem bGF {e:Bool} {C K:Prop} [Decidable C]:gq e (decide C) K=((e=true->C)/\K):=by
 cases e <;> simp [gq,aU7]
theorem aG {C K:Prop} [Decidable C](h:C)(k:K):rq (decide C) K:=by rw [aU7];exact⟨h,k⟩
theorem cA {n bytes:Nat} {K:Prop} (e:(n:Int)<=9223372036854775807)(h2:n*bytes<=140737488355328)(k:K):rq (aV6 n bytes) K:=by rw [gI,aSC];exact⟨⟨e,h2⟩,k⟩
theorem mk_eq {bytes:Nat} {l c:Int} {K:Prop} :rq (decide (0<=l/\l<=c)) (rq (mkB bytes c) K)=(0<=l/\l<=c/\(bytes:Int)*c<=281474976710656/\c<=9223372036854775807/\K):=by
 rw [aU7,gI];refine propext ⟨λh=>?_,λh=>?_⟩
 ·have h2:=h.2.1;rw [aR5 (by omega)] at h2;exact⟨h.1.1,h.1.2,h2.1,h2.2,h.2.2⟩
 ·refine⟨⟨h.1,h.2.1⟩,?_,h.2.2.2.2⟩;rw [aR5 (by omega)];exact⟨h.2.2.1,h.2.2.2.1⟩
theorem aU8 {bytes:Nat} {l c:Int} {K:Prop} (e:0<=l)(h2:l<=c)(f:(bytes:Int)*c<=281474976710656)(h4:c<=9223372036854775807)(k:K):rq (decide (0<=l/\l<=c)) (rq (mkB bytes c) K):=by rw [mk_eq];exact⟨e,h2,f,h4,k⟩
theorem kE {e:Bool} {C K:Prop} [Decidable C](h:e=true->C)(k:K):gq e (decide C) K:=by rw [bGF];exact⟨h,k⟩
def bIJ(op:BinOp)(k:IntKind)(a b:Int)(gc:Bool)(K:V->Prop):Prop:=
 match op with
 | .add=>K (.int k (k.wrap (a+b)))
 | .sub=>K (.int k (k.wrap (a-b)))
 | .mul=>K (.int k (k.wrap (a*b)))
 | .quo=>gq gc (decide (b≠0)) (K (.int k (k.wrap (a.tdiv b))))
 | .rem=>gq gc (decide (b≠0)) (K (.int k (a.tmod b)))
 | .eql=>K (.bool (a==b))
 | .neq=>K (.bool (a != b))
 | .lss=>K (.bool (decide (a<b)))
 | .leq=>K (.bool (decide (a<=b)))
 | .gtr=>K (.bool (decide (b<a)))
 | .geq=>K (.bool (decide (b<=a)))
 | .and=>K (.int k (gC .and k a b))
 | .or=>K (.int k (gC .or k a b))
 | .xor=>K (.int k (gC .xor k a b))
 | .andNot=>K (.int k (gC .andNot k a b))
 | .shl=>gq gc (decide (0<=b)) (K (.int k (k.wrap (a*2^min b.toNat k.bits))))
 | .shr=>gq gc (decide (0<=b)) (K (.int k (a.fdiv (2^min b.toNat k.bits))))
theorem bCH(op:BinOp)(k:IntKind)(a b:Int)(e:Bool)(K:V->Prop):bIJ op k a b e K=aF6 op k a b e K:=by
 cases op <;> simp only [bIJ,aF6,bGF]
def aNW:List (Nat×Kd)->List V->List V->Bool->(Bool->Prop)->Prop
 | [],_,_,acc,K=>K acc
 | (o,.i)::r,xs,ys,acc,K=>match xs[o]?,ys[o]? with
   |some (.int k a),some (.int k' b)=>rq (decide (k=k')) (aNW r xs ys (acc&&(a==b)) K)
   |_,_=>False
 | (o,.b)::r,xs,ys,acc,K=>match xs[o]?,ys[o]? with
   |some (.bool a),some (.bool b)=>aNW r xs ys (acc&&(a==b)) K
   |_,_=>False
 | (o,.s)::r,xs,ys,acc,K=>match xs[o]?,ys[o]? with
   |some (.str a),some (.str b)=>aNW r xs ys (acc&&uW a b) K
   |_,_=>False
theorem aFO(K:Bool->Prop)(xs ys:List V):∀(f:List (Nat×Kd)) (e:Bool),aNW f xs ys e K=iQ f xs ys e K
 | [],_=>rfl
 | (o,.i)::r,e=>by simp only [aNW,iQ,aU7];simp only [aFO K xs ys r];rfl
 | (o,.b)::r,e=>by simp only [aNW,iQ,aFO K xs ys r];rfl
 | (o,.s)::r,e=>by simp only [aNW,iQ,aFO K xs ys r];rfl
def rdF(S:aD)(i:I)(e:A->V)(gc:Bool)(K:V->Prop):Prop:=
 match i with
 | .mv x=>K (e x)
 | .un .not x=>match e x with | .bool b=>K (.bool (!b))|_=>rq (!gc) (K .any)
 | .un .neg x=>match e x with | .int k n=>K (.int k (k.wrap (0-n)))|_=>rq (!gc) (K .any)
 | .bin op x y=>match e x,e y with
   | .int k a,.int k' b=>rq (shk op k k') (bIJ op k a b gc K)
   |_,_=>rq (!gc) (K .any)
 | .conv k x=>match e x with | .int _ n=>K (.int k (k.wrap n))|_=>rq (!gc) (K .any)
 | .nilck x=>match e x with
   | .ptr k i c=>K (.ptr k i c)
   | .rp es cs c=>K (.rp es cs c)
   |_=>rq (!gc) (K .any)
 | .faddr off x=>match e x with
   | .ptr k i c=>K (.ptr k i (c+off))
   | .rp es cs c=>K (.rp es cs (c+off))
   |_=>rq (!gc) (K .any)
 | .ld agg n x=>match e x with
   | .ptr k i c=>match S.get k with
     |some (.row es xs)=>gq gc (decide (i<xs.length)) (rq (decide (c+n<=es)) (K (rA agg es (xs.getD i []) c n)))
     |some (.box cs)=>gr gc (decide (i=0/\c+n<=cs.length)) (K (rA agg cs.length cs c n))
     |_=>rq (!gc) (K .any)
   | .rp es cs c=>gr gc (decide (c+n<=es)) (K (rA agg es cs c n))
   |_=>rq (!gc) (K .any)
 | .eqb neg x y=>match e x,e y with
   | .bool p,.bool q=>(match neg with |true=>K (.bool (!(p==q)))|false=>K (.bool (p==q)))
   |_,_=>rq (!gc) (K .any)
 | .eqs neg offs x y=>match e x,e y with
   | .agg xs,.agg ys=>aNW offs xs ys true λr=>(match neg with |true=>K (.bool (!r))|false=>K (.bool r))
   |_,_=>rq (!gc) (K .any)
 | .extr i x=>match e x with
   | .tup vs=>rq (decide (i<vs.length)) (K (vs.getD i .any))
   |_=>rq (!gc) (K .any)
 | .fget agg off n x=>match e x with
   | .agg cs=>rq (decide (off+n<=cs.length)) (K (rA agg cs.length cs off n))
   |_=>rq (!gc) (K .any)
 | .mkfn f xs=>K (.fn f (xs.map e))
 | .isnil neg x=>match e x with
   | .lst _ _ (_::_)=>K (.bool neg)
   | .val (.slice none _ _)=>K (.bool (!neg))
   | .val (.slice (some _) _ _)=>K (.bool neg)
   |_=>rq (!gc) (K .any)
 | .slc3 es x lo hi mx=>match unk (e x) with
   | .sl k off len=>match S.get k with
     |some (.row es' _)=>
      match(match lo with |none=>V.int .i64 0 |some l=>e l),e hi,e mx with
      | .int _ l,.int _ h,.int _ m=>rq (decide (es'=es)) (gq gc (decide (0<=l/\l<=h/\h=m/\m<=(len:Int))) (K (.slx k (off+l.toNat) (h.toNat-l.toNat))))
      |_,_,_=>rq (!gc) (K .any)
     |_=>rq (!gc) (K .any)
   |_=>rq (!gc) (K .any)
 | .iaddr es x i=>match unk (e x),e i with
   | .sl k off len,.int _ j=>match pZ (S.get k) with
     |some es'=>rq (decide (es'=es)) (gq gc (decide (0<=j/\j< (len:Int))) (K (.ptr k (off+j.toNat) 0)))
     |_=>rq (!gc) (K .any)
   | .lst es' _ xs,.int _ j=>gq gc (decide (es'=es/\0<=j/\j< (xs.length:Int))) (K (.rp es (xs.getD j.toNat []) 0))
   |_,_=>rq (!gc) (K .any)
 | .iarr n es x i=>match e x,e i with
   | .ptr k i0 c,.int _ j=>gq gc (decide (0<=j/\j< (n:Int))) (K (.ptr k i0 (c+j.toNat*es)))
   | .rp es' cs c,.int _ j=>gq gc (decide (0<=j/\j< (n:Int))) (K (.rp es' cs (c+j.toNat*es)))
   |_,_=>rq (!gc) (K .any)
 | .aidx n x i=>match e x,e i with
   | .agg cs,.int _ j=>rq (decide (cs.length=n)) (gq gc (decide (0<=j/\j< (n:Int))) (K (cs.getD j.toNat .any)))
   |_,_=>rq (!gc) (K .any)
 | .slc es x lo hi=>match unk (e x) with
   | .sl k off len=>match pZ (S.get k) with
     |some es'=>
      match(match lo with |none=>V.int .i64 0 |some l=>e l),(match hi with |none=>V.int .i64 (len:Int)|some h=>e h) with
      | .int _ l,.int _ h=>rq (decide (es'=es)) (gq gc (decide (0<=l/\l<=h/\h<=(len:Int))) (K (.sl k (off+l.toNat) (h.toNat-l.toNat))))
      |_,_=>rq (!gc) (K .any)
     |_=>rq (!gc) (K .any)
   | .lst es' _ xs=>
    match(match lo with |none=>V.int .i64 0 |some l=>e l),(match hi with |none=>V.int .i64 (xs.length:Int)|some h=>e h) with
    | .int _ l,.int _ h=>gq gc (decide ((es'=es\/xs.isEmpty=true)/\0<=l/\l<=h/\h<=(xs.length:Int))) (K (.lst es' false ((xs.take h.toNat).drop l.toNat)))
    |_,_=>rq (!gc) (K .any)
   |_=>rq (!gc) (K .any)
 | .len x=>match unk (e x) with
   | .sl _ _ len=>K (.int .i64 (len:Int))
   | .lst _ _ xs=>K (.int .i64 (xs.length:Int))
   |_=>rq (!gc) (K .any)
 | .slen x=>match e x with
   | .str s=>K (.int .i64 (s.size:Int))
   |_=>rq (!gc) (K .any)
 | .sidx x i=>match e x,e i with
   | .str s,.int _ j=>gq gc (decide (0<=j/\j< (s.size:Int))) (K (.int .u8 ((s.data.toList.getD j.toNat 0).toNat:Int)))
   |_,_=>rq (!gc) (K .any)
 | .ssl x lo hi=>match e x with
   | .str s=>match(match lo with |none=>V.int .i64 0 |some l=>e l),(match hi with |none=>V.int .i64 (s.size:Int)|some h=>e h) with
     | .int _ l,.int _ h=>gq gc (decide (0<=l/\l<=h/\h<=(s.size:Int))) (K (.str (s.extract l.toNat h.toNat)))
     |_,_=>rq (!gc) (K .any)
   |_=>rq (!gc) (K .any)
 | .scat x y=>match e x,e y with
   | .str a,.str b=>gq gc (Nat.ble (a.size+b.size) 9223372036854775807) (K (.str (a++b)))
   |_,_=>rq (!gc) (K .any)
 | .sqs neg x y=>match e x,e y with
   | .str a,.str b=>(match neg with |true=>K (.bool (!uW a b))|false=>K (.bool (uW a b)))
   |_,_=>rq (!gc) (K .any)
 | .b2s x=>match unk (e x) with
   | .sl k off len=>match S.get k with
     |some (.row 1 xs)=>match iO ((xs.drop off).take len) with
      |some l=>gq gc (decide (off+len<=xs.length)) (K (.str ⟨l.toArray⟩))
      |none=>rq (!gc) (K .any)
     |some (.bb l)=>gq gc (decide (off+len<=l.length)) (K (.str ⟨((l.drop off).take len).toArray⟩))
     |_=>rq (!gc) (K .any)
   | .lst 1 _ xs=>match iO xs with
     |some l=>K (.str ⟨l.toArray⟩)
     |none=>rq (!gc) (K .any)
   |_=>rq (!gc) (K .any)
 | .mx x y=>match e x,e y with
   | .int k a,.int _ b=>K (.int k (max a b))
   |_,_=>rq (!gc) (K .any)
 | .mn x y=>match e x,e y with
   | .int k a,.int _ b=>K (.int k (min a b))
   |_,_=>rq (!gc) (K .any)
 | .mget z ok x i=>match e x,e i with
   | .mp k,.int .i64 j=>match S.get k with
     |some (.mp (1,xs))=>(match ok with |true=>K (.tup [fJ xs [j] z,.bool (oI xs [j])])|false=>K (fJ xs [j] z))
     |_=>rq (!gc) (K .any)
   |_,_=>rq (!gc) (K .any)
 | .mgetp z ok x i=>match e x,e i with
   | .mp k,.agg [.int .i64 a,.int .i64 b]=>match S.get k with
     |some (.mp (2,xs))=>(match ok with |true=>K (.tup [fJ xs [a,b] z,.bool (oI xs [a,b])])|false=>K (fJ xs [a,b] z))
     |_=>rq (!gc) (K .any)
   |_,_=>rq (!gc) (K .any)
 |_=>False
theorem aRI(S:aD)(i:I)(e:A->V)(f:Bool)(K:V->Prop):rdF S i e f K=gQ S i e f K:=by
 cases i with
 |un op x=>cases op <;> simp only [rdF,gQ,aRS] <;> rfl
 |_=>simp only [rdF,gQ,gI,aQW,bJ7,decide_eq_true_iff,zS,zL,bCH,aFO,yE] <;> rfl
def wrF(S:aD)(n:Nat)(i:I)(e:A->V)(K:V->aD->Nat->Prop):Prop:=
 match i with
 | .alloc z=>K (.ptr n 0 0) (S.set n (.box z)) (n+1)
 | .box x=>match(e x).cells? with
   |some cs=>rq (cs.all pY) (K (.ptr n 0 0) (S.set n (.box cs)) (n+1))
   |none=>False
 | .st m x y=>match e x,(e y).cells? with
   | .ptr k i c,some cs=>match S.get k with
     |some (.row es xs)=>rq (decide (i<xs.length)) (rq (decide (c+m<=es)) (rq (decide (cs.length=m)) (rq (cs.all cN) (K .any (S.set k (.row es (xs.set i (aS es (xs.getD i []) c cs)))) n))))
     |some (.box bs)=>rq (decide (i=0)) (rq (decide (c+m<=bs.length)) (rq (decide (cs.length=m)) (rq (cs.all pY) (K .any (S.set k (.box (aS bs.length bs c cs))) n))))
     |some (.bb l)=>match cs with
      | [.int .u8 v]=>rq (decide (m=1/\c=0)) (rq (decide (i<l.length)) (rq (decide (0<=v/\v<256)) (K .any (S.set k (.bb (l.set i (UInt8.ofNat v.toNat)))) n)))
      |_=>False
     |_=>False
   |_,_=>False
 | .s2b x=>match e x with
   | .str s=>rq (Nat.ble s.size 9223372036854775807) (K (.sl n 0 s.size) (S.set n (.bb s.data.toList)) (n+1))
   |_=>False
 | .aslc len x hi=>match e x with
   | .ptr k 0 0=>match S.get k with
     |some (.box cs)=>match(match hi with |none=>V.int .i64 (len:Int)|some h=>e h) with
      | .int _ h=>rq (decide (cs.length=len/\cs.all cN=true/\0<=h/\h<=(len:Int)))<|K (.lst 1 false ((cs.take h.toNat).map λc=> [c])) (S.del k) n
      |_=>False
     |_=>False
   |_=>False
 | .cpys x y=>match e y,unk (e x) with
   | .str s,.sl k off len=>match S.get k with
     |some (.row 1 xs)=>rq (decide (off+len<=xs.length))<|
      K (.int .i64 (min s.size len:Nat)) (S.set k (.row 1 (xs.take off++(jT s.data.toList).take (min s.size len)++xs.drop (off+min s.size len)))) n
     |some (.bb l)=>rq (decide (off+len<=l.length))<|
      K (.int .i64 (min s.size len:Nat)) (S.set k (.bb (l.take off++s.data.toList.take (min s.size len)++l.drop (off+min s.size len)))) n
     |_=>False
   |_,_=>False
 | .mkmap ks=>K (.mp n) (S.set n (.mp (ks,[]))) (n+1)
 | .mput x i y=>match e x,e i with
   | .mp k,.int .i64 j=>match S.get k with
     |some (.mp (1,xs))=>rq (cN (e y)) (K .any (S.set k (.mp (1,iU xs [j] (e y)))) n)
     |_=>False
   |_,_=>False
 | .mputp x i y=>match e x,e i with
   | .mp k,.agg [.int .i64 a,.int .i64 b]=>match S.get k with
     |some (.mp (2,xs))=>rq (cN (e y)) (K .any (S.set k (.mp (2,iU xs [a,b] (e y)))) n)
     |_=>False
   |_,_=>False
 | .bslice es z m ps=>match vX es (yC m z) (ps.map λp=>(p.1,e p.2)) with
   |some rows=>K (.sl n 0 m) (S.set n (.row es rows)) (n+1)
   |none=>False
 | .mk es bytes z l c=>match e l,e c with
   | .int _ l,.int _ c=>rq (decide (0<=l/\l<=c)) (rq (mkB bytes c) (K (.slk n 0 l.toNat c.toNat) (S.set n (.row es (yC l.toNat z))) (n+1)))
   |_,_=>False
 | .app es bytes x y=>match aPR S (e y) with
   |some (es',len',ys)=>rq (decide ((es'=es\/ys.isEmpty=true)/\ys.length=len'))<|match unk (e x) with
    | .lst _ true []=>rq (aV6 ys.length bytes) (K (.sl n 0 ys.length) (S.set n (.row es ys)) (n+1))
    | .sl k off len=>match S.get k with
      |some (.row es2 xs)=>rq (decide (es2=es/\off=0)) (rq (decide (len=xs.length)) (rq (aV6 (xs.length+ys.length) bytes)
       (K (.sl n 0 (xs.length+ys.length)) ((S.del k).set n (.row es (xs++ys))) (n+1))))
      |_=>False
    | .slx k off len=>match S.get k with
      |some (.row es2 xs)=>rq (decide (es2=es/\off=0)) (rq (decide (len<=xs.length)) (rq (aV6 (len+ys.length) bytes)
       (K (.sl n 0 (len+ys.length)) ((S.del k).set n (.row es (xs.take len++ys))) (n+1))))
      |_=>False
    |_=>False
   |none=>False
 | .clr es z x=>match unk (e x) with
   | .sl k off len=>match S.get k with
     |some (.row es2 xs)=>rq (decide (es2=es))<|rq (decide (off+len<=xs.length))<|K (.tup []) (S.set k (.row es (xs.take off++yC len z++xs.drop (off+len)))) n
     |_=>False
   |_=>False
 | .cpy es x y=>match aPR S (e y),unk (e x) with
   |some (es',len',ys),.sl k off len=>match S.get k with
    |some (.row es2 xs)=>rq (decide ((es'=es\/ys.isEmpty=true)/\ys.length=len'))<|rq (decide (es2=es))<|rq (decide (off+len<=xs.length))<|
     K (.int .i64 (min ys.length len:Nat)) (S.set k (.row es (xs.take off++ys.take (min ys.length len)++xs.drop (off+min ys.length len)))) n
    |_=>False
   |_,_=>False
 |_=>False
theorem bBQ(S:aD)(n:Nat)(i:I)(e:A->V)(K:V->aD->Nat->Prop):wrF S n i e K=pO S n i e K:=by
 cases i with
 |mk es f z l c=>simp only [wrF,pO,mk_eq] <;> rfl
 |_=>simp only [wrF,pO,gI,decide_eq_true_iff,zS,aSC,yE,and_assoc] <;> rfl
def tG(ssl:bA)(sso:aD)(snx:Nat)(ch:List (Nat×Bool))(gc:Bool)(i:I)(K:V->aD->Nat->Prop):Prop:=
 match ch with
 | []=>wrF sso snx i (bR ssl []) K
 |g::r=>match gc with
  |true=>wrF sso snx i (bR ssl (g::r)) K
  |false=>K .any sso snx
theorem bF8(ssl:bA)(f:aD)(e:Nat)(ch:List (Nat×Bool))(j:Bool)(i:I)(K:V->aD->Nat->Prop):tG ssl f e ch j i K=mV ssl f e ch j i K:=by
 cases ch with
 |nil=>exact bBQ _ _ _ _ _
 |cons g r=>cases j <;> simp [tG,mV,bBQ]
def fI(P:Program)(ssl:bA)(sso:aD)(snx:Nat)(ch:List (Nat×Bool))(gc:Bool)(i:I)(K:V->aD->Nat->Prop):Prop:=
 match i with
 | .pick (.t tc) a b=>match bR ssl ch (.t tc) with
   | .bool x=>match bR ssl ((tc,true)::ch) a,bR ssl ((tc,false)::ch) b with
     | .bool p,.bool q=>K (.bool (bif x then p else q)) sso snx
     |u,v=>match x with
      |true=>K u sso snx
      |false=>K v sso snx
   |_=>rq (!gc) (K .any sso snx)
 | .build z ps=>match aE6 z (ps.map λp=>(p.1,p.2.1,bR ssl ch p.2.2)) with
   |some cs=>rq (z.all pY) (K (.agg cs) sso snx)
   |none=>False
 | .call f xs=>nC (sK P f (xs.map (bR ssl ch)) sso gc λv=>K v sso snx) ((gc=true->qD P f (xs.map (bR ssl ch)) sso snx K)/\(gc=false->K .any sso snx)) ((gc=true->rV P f (xs.map (bR ssl ch)) sso snx K)/\(gc=false->K .any sso snx)) ((gc=true->sE P f (xs.map (bR ssl ch)) sso snx K)/\(gc=false->K .any sso snx))
 | .vcall x xs=>match bR ssl ch x with
   | .fn f caps=>jL P f/\nC (sK P f (xs.map (bR ssl ch)++caps) sso gc λv=>K v sso snx) ((gc=true->qD P f (xs.map (bR ssl ch)++caps) sso snx K)/\(gc=false->K .any sso snx)) ((gc=true->rV P f (xs.map (bR ssl ch)++caps) sso snx K)/\(gc=false->K .any sso snx)) ((gc=true->sE P f (xs.map (bR ssl ch)++caps) sso snx K)/\(gc=false->K .any sso snx))
   |_=>rq (!gc) (K .any sso snx)
 | .clr es z x=>tG ssl sso snx ch gc (.clr es z x) K
 | .alloc z=>tG ssl sso snx ch gc (.alloc z) K
 | .box x=>tG ssl sso snx ch gc (.box x) K
 | .st m x y=>tG ssl sso snx ch gc (.st m x y) K
 | .mkmap ks=>tG ssl sso snx ch gc (.mkmap ks) K
 | .s2b x=>tG ssl sso snx ch gc (.s2b x) K
 | .aslc n x h=>tG ssl sso snx ch gc (.aslc n x h) K
 | .cpys x y=>tG ssl sso snx ch gc (.cpys x y) K
 | .mput x i y=>tG ssl sso snx ch gc (.mput x i y) K
 | .mputp x i y=>tG ssl sso snx ch gc (.mputp x i y) K
 | .bslice es z m ps=>tG ssl sso snx ch gc (.bslice es z m ps) K
 | .mk es by_ z l c=>tG ssl sso snx ch gc (.mk es by_ z l c) K
 | .app es by_ x y=>tG ssl sso snx ch gc (.app es by_ x y) K
 | .cpy es x y=>tG ssl sso snx ch gc (.cpy es x y) K
 |i=>rdF sso i (bR ssl ch) gc λv=>K v sso snx
theorem aLK(P:Program)(ssl:bA)(f:aD)(e:Nat)(ch:List (Nat×Bool))(j:Bool)(i:I)(K:V->aD->Nat->Prop):fI P ssl f e ch j i K=dO P ssl f e ch j i K:=by
 cases i with
 |pick c a b=>cases c <;> simp only [fI,dO,aRS,aRI] <;> rfl
 |_=>simp only [fI,dO,gI,zL,aRI,bF8] <;> rfl
end Go.Sk
namespace Go.Sk
open Go Go.RowKit
variable [gL]
def fE(kill:List Nat):bA->(bA->Prop)->Prop
 | [],K=>K []
 | (d,⟨[],gc,v⟩)::r,K=>match jB d kill with
   |true=>fE kill r K
   |false=>fE kill r λr'=>K ((d,⟨[],gc,v⟩)::r')
 | (_,⟨_::_,_,_⟩)::r,K=>fE kill r K
theorem iB(e:List Nat):∀(l:bA) (K:bA->Prop),fE e l K=K (clean e l)
 | [],_=>rfl
 | (d,⟨[],f,v⟩)::r,K=>by
   simp only [fE,clean]
   cases h:jB d e with
   |true=>simpa using iB e r K
   |false=>simpa using iB e r _
 | (_,⟨_::_,_,_⟩)::r,K=>by simp only [fE,clean];exact iB e r K
def aFA(P:Program):List iZ->St->(St->Prop)->Prop
 | [],st,K=>K st
 | ⟨d,g,i⟩::r,⟨ssl,sso,snx⟩,K=>rY ssl g λch gc=>fI P ssl sso snx ch gc i λv S n=>oB v λv=>dN S λS=>cL 64 0 n λn=>aC3 ssl d ⟨ch,gc,v⟩ λsl=>aFA P r ⟨sl,S,n⟩ K
theorem vT(P:Program):∀(l:List iZ) (st:St) (K:St->Prop),aFA P l st K=sH P l st K
 | [],_,_=>rfl
 | ⟨d,g,i⟩::r,st,K=>by simp only [aFA,sH,nK,aLK,jA,eU,dS,rF,vT P r];cases guardOf st.sl g <;> rfl
def cq(x:Bool)(A B:Prop):Prop:=
 match x with
 |true=>A
 |false=>B
theorem aSI {x:Bool} {A B:Prop} :cq x A B=((x=true->A)/\(x=false->B)):=by cases x <;> simp [cq]
theorem aC {x:Bool} {A B:Prop} (h:x=true->A)(k:x=false->B):cq x A B:=by rw [aSI];exact⟨h,k⟩
def gD(P:Program)(n0:Nat):RC->St->(Ex->St->Prop)->Prop
 | .skip,st,K=>K .normal st
 | .reg l kill,st,K=>aFA P l st λ| ⟨sl0,so0,nx0⟩=>fE kill sl0 λsl=>K .normal ⟨sl,so0,nx0⟩
 | .dreg b0 n l kill an ms,st,K=>match Nat.ble st.nx b0 with
   |true=>nY P l ms ⟨st.sl,st.so,n⟩ λ|recs,⟨sl0,so0,nx0⟩=>nX recs an 0=true/\fE kill (look sl0 (qU sl0)) λsl=>K .normal ⟨sl,so0,nx0⟩
   |false=>nY P l (shM st.nx ms) ⟨st.sl,st.so,n+st.nx⟩ λ|recs,⟨sl0,so0,nx0⟩=>nX recs an 0=true/\fE kill (look sl0 (qU sl0)) λsl=>K .normal ⟨sl,so0,nx0⟩
 | .seq a b,st,K=>gD P n0 a st λe st'=>match e with
   | .normal=>gD P n0 b st' K
   | .exit id=>K (.exit id) st'
   | .ret=>K .ret st'
 | .regc a b kill,st,K=>∃(α:Type) (I:α->Prop) (F:α->St),(aFA P a st λst'=>∃x,I x/\View n0 st' (F x))/\∀x,I x->aFA P b (F x) λ| ⟨sl0,so0,nx0⟩=>fE kill sl0 λsl=>K .normal ⟨sl,so0,nx0⟩
 | .regv a d b kill,st,K=>∃(α:Type) (I:α->Prop) (F:α->St),(aFA P a st λst'=>bEM st' d λst''=>∃x,I x/\View n0 st'' (F x))/\∀x,I x->aFA P b (F x) λ| ⟨sl0,so0,nx0⟩=>fE kill sl0 λsl=>K .normal ⟨sl,so0,nx0⟩
 | .cut a b,st,K=>∃(α:Type) (I:α->Prop) (F:α->St),(gD P n0 a st λe st'=>match e with
   | .normal=>∃x,I x/\View n0 st' (F x)
   | .exit id=>K (.exit id) st'
   | .ret=>K .ret st')/\∀x,I x->gD P n0 b (F x) K
 | .cond c a b,st,K=>match bR st.sl [] c with
   | .bool x=>cq x (gD P n0 a st K) (gD P n0 b st K)
   |_=>False
 | .block id c,st,K=>gD P n0 c st λe st'=>match e with
   | .exit j=>match Nat.beq j id with
     |true=>K .normal st'
     |false=>K (.exit j) st'
   | .normal=>K .normal st'
   | .ret=>K .ret st'
 | .loop c,st,K=>∃(α:Type) (I:α->Prop) (F:α->St) (m:α->Nat),(∃a,I a/\View n0 st (F a))/\∀a,I a->gD P n0 c (F a) λe st'=>match e with
   | .normal=>∃a',I a'/\View n0 st' (F a')/\m a'<m a
   | .exit id=>K (.exit id) st'
   | .ret=>K .ret st'
 | .uloop c,st,K=>∃n,uF (gD P n0 c) K n st
 | .exit id,st,K=>K (.exit id) st
 | .ret,st,K=>K .ret st
 | .bad,_,_=>False
theorem tO(P:Program)(n0:Nat):∀(rc:RC) (st:St) (K:Ex->St->Prop),gD P n0 rc st K=dF P n0 rc st K:=by
 intro rc
 induction rc with
 |skip=>intro st K;rfl
 |reg l z=>intro st K;simp only [gD,dF,vT,iB]
 |dreg D n l z E F=>intro st K;simp only [gD,dF,iB];try(cases Nat.ble st.nx D <;> rfl)
 |seq a b f m=>
  intro st K;simp only [gD,dF,f]
  congr 1
  funext e C
  cases e <;> simp only [m]
 |regc a b z=>intro st K;simp only [gD,dF,vT,iB]
 |regv a d b z=>intro st K;simp only [gD,dF,vT,iB]
 |cut a b f m=>
  intro st K;simp only [gD,dF,f,m]
  try rfl
 |cond c a b f m=>
  intro st K;simp only [gD,dF,f,m,aSI]
  try rfl
 |uloop c B=>
  intro st K;have e:gD P n0 c=dF P n0 c:=by funext st K;exact B st K
  simp only [gD,dF,e]
 |block id c B=>
  intro st K;simp only [gD,dF,B]
  congr 1
  funext e C
  cases e with
  |exit j=>
   simp only
   cases h:Nat.beq j id with
   |true=>rw [if_pos (zY h)]
   |false=>rw [if_neg (Nat.ne_of_beq_eq_false h)]
  |_=>rfl
 |loop c B=>
  intro st K;simp only [gD,dF,B]
  try rfl
 |exit id=>intro st K;rfl
 |ret=>intro st K;rfl
 |bad=>intro st K;rfl
theorem bJ5 {P:Program} {f:FuncId} {fn:Func} {rc:RC} {rvs:List RV} {ob0 j:List Obj} {args:List V} {m:V} (D:P.funcs[f]? =some fn)(z:fn.body.isSome=true)(e:dK P fn.ntmps (fn.body.getD .skip)=some (strip rc))
 (B:fn.results.toList.mapM (jR P)=some rvs) (E:args.length<=fn.ntmps)
 (C:cL 16 0 ob0.length λn0=>gD P n0 rc ⟨dV 0 args,aI 0 ob0,n0⟩ (gR P n0 rvs m j)):aM P f ob0 args m j:=
 bGD D z e B E (by rw [dS] at C;rw [<-tO];exact C)
end Go.Sk
namespace Go.Sk
open Go Go.RowKit
variable [gL]
structure Cd(P:Program)(n0:Nat)(rc:RC)(st:St)(K:Ex->St->Prop):Prop where
 h:gD P n0 rc st K
def bNC(P:Program)(n0:Nat)(b:RC)(K:Ex->St->Prop)(e:Ex)(st':St):Prop:=
 match e with
 | .normal=>Cd P n0 b st' K
 | .exit id=>K (.exit id) st'
 | .ret=>K .ret st'
def bLR {α:Type} (n0:Nat)(I:α->Prop)(F:α->St)(K:Ex->St->Prop)(e:Ex)(st':St):Prop:=
 match e with
 | .normal=>∃x,I x/\View n0 st' (F x)
 | .exit id=>K (.exit id) st'
 | .ret=>K .ret st'
def aXE(id:Nat)(K:Ex->St->Prop)(e:Ex)(st':St):Prop:=
 match e with
 | .exit j=>match Nat.beq j id with
   |true=>K .normal st'
   |false=>K (.exit j) st'
 | .normal=>K .normal st'
 | .ret=>K .ret st'
def aS7 {α:Type} (n0:Nat)(I:α->Prop)(F:α->St)(m:α->Nat)(a:α)(K:Ex->St->Prop)(e:Ex)(st':St):Prop:=
 match e with
 | .normal=>∃a',I a'/\View n0 st' (F a')/\m a'<m a
 | .exit id=>K (.exit id) st'
 | .ret=>K .ret st'
section
variable {P:Program} {n0:Nat} {st:St} {K:Ex->St->Prop}
theorem aS3(rc:RC)(st:St)(K:Ex->St->Prop):Cd P n0 rc st K=gD P n0 rc st K:=propext ⟨λh=>h.h,λh=>⟨h⟩⟩
theorem Cd.skip(h:K .normal st):Cd P n0 .skip st K:=⟨h⟩
theorem Cd.exit {id:Nat} (h:K (.exit id) st):Cd P n0 (.exit id) st K:=⟨h⟩
theorem Cd.ret(h:K .ret st):Cd P n0 .ret st K:=⟨h⟩
theorem Cd.reg {l:List iZ} {e:List Nat} (h:aFA P l st λ| ⟨sl0,j,f⟩=>fE e sl0 λsl=>K .normal ⟨sl,j,f⟩):Cd P n0 (.reg l e) st K:=⟨h⟩
theorem Cd.seq {a b:RC} (h:Cd P n0 a st (bNC P n0 b K)):Cd P n0 (.seq a b) st K:=by
 refine⟨?_⟩
 have h:Cd P n0 a st λe f=>match e with
  | .normal=>Cd P n0 b f K
  | .exit id=>K (.exit id) f
  | .ret=>K .ret f:=h
 have h:=h.h;simp only [aS3] at h;exact h
theorem Cd.cut {a b:RC} (h:∃(α:Type) (I:α->Prop) (F:α->St),Cd P n0 a st (bLR n0 I F K)/\∀x,I x->Cd P n0 b (F x) K):Cd P n0 (.cut a b) st K:=by refine⟨?_⟩;obtain⟨α,I,F,e,h2⟩:=h;exact⟨α,I,F,e.h,λx f=>(h2 x f).h⟩
theorem Cd.cond {c:A} {a b:RC} (h:match bR st.sl [] c with
 | .bool x=>cq x (Cd P n0 a st K) (Cd P n0 b st K)
 |_=>False):Cd P n0 (.cond c a b) st K:=by
 refine⟨?_⟩;simp only [aS3] at h;exact h
theorem Cd.block {id:Nat} {c:RC} (h:Cd P n0 c st (aXE id K)):Cd P n0 (.block id c) st K:=⟨h.h⟩
theorem Cd.loop {c:RC} (h:∃(α:Type) (I:α->Prop) (F:α->St) (m:α->Nat),(∃a,I a/\View n0 st (F a))/\∀a,I a->Cd P n0 c (F a) (aS7 n0 I F m a K)):Cd P n0 (.loop c) st K:=by refine⟨?_⟩;obtain⟨α,I,F,m,e,h2⟩:=h;exact⟨α,I,F,m,e,λa f=>(h2 a f).h⟩
theorem Cd.uloop {c:RC} (h:∃n,uF (Cd P n0 c) K n st):Cd P n0 (.uloop c) st K:=by
 refine⟨?_⟩;obtain⟨n,h⟩:=h;have e:Cd P n0 c=gD P n0 c:=by funext st K;exact aS3 c st K
 rw [e] at h;exact⟨n,h⟩
theorem bJ3 {f:FuncId} {fn:Func} {rc:RC} {rvs:List RV} {ob0 j:List Obj} {args:List V} {m:V} (D:P.funcs[f]? =some fn)(z:fn.body.isSome=true)(e:dK P fn.ntmps (fn.body.getD .skip)=some (strip rc))
 (B:fn.results.toList.mapM (jR P)=some rvs) (E:args.length<=fn.ntmps)
 (C:cL 16 0 ob0.length λn0=>Cd P n0 rc ⟨dV 0 args,aI 0 ob0,n0⟩ (gR P n0 rvs m j)):aM P f ob0 args m j:=
 bJ5 D z e B E (by rw [dS] at C⊢;exact C.h)
end
end Go.Sk
