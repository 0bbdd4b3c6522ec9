/- Caches. -/
import Derived.Test.YtmhapcbjjpadnaaGreatK4m
set_option linter.unusedSimpArgs false
set_option linter.unusedVariables false
open Array renaming getD_eq_getD_getElem?→zA,getElem?_eq_getElem→zE,length_toList→zH,replicate→zJ,getElem?_setIfInBounds_self_of_lt→zK,getElem?_setIfInBounds_ne→zM,getElem?_append_left→zR,mapM_eq_mapM_toList→zU
open Bool renaming and_eq_true→zC,not_eq_true'→zL
open List renaming mem_cons_of_mem→zD,getElem?_cons_zero→zF,getElem?_eq_getElem→zG,range_eq_range'→zO,getD_eq_getElem?_getD→zP,getElem?_append_right→zQ,getElem?_append_left→zT,cons_append→zW,range'_append_1→zZ,replicate→yA,length_append→yB,isEmpty_iff→yC,range'→yE
open Nat renaming zero_add→zI,le_of_ble_eq_true→zN,ble_eq→zS,lt_of_not_le→zV,eq_of_beq_eq_true→zY,le_refl→yD
open Option renaming map_eq_some_iff→zX
set_option linter.unusedSectionVars false
namespace Go.Sk
open Go Go.RowKit
variable [fQ]
section fold
variable {X:Type}
def cF(wr:Rec→Option X):(Nat→Bool)→List Rec→X→X
 |_,[],x=>x
 |D,r::rs,x=>cF wr (fun i=>D (i+1)) rs (match D 0 with |true=>(wr r).getD x |false=>x)
theorem kS {wr:Rec→Option X} :∀ {rs:List Rec} {D:Nat→Bool} {x:X},(∀(j:Nat) r,rs[j]? =some r→D j=true→wr r=none)→cF wr D rs x=x
 | [],_,_,_=>rfl
 |r::rs,D,x,h=>by
  simp only [cF]
  rw [kS fun j r' hj hd=>h (j+1) r' (by simpa using hj) hd]
  cases hd:D 0 with
  |true=>simp [h 0 r rfl hd]
  |false=>rfl
theorem jX {wr:Rec→Option X} :∀ {rs:List Rec} {D D':Nat→Bool} {x:X},(∀(j:Nat) r,rs[j]? =some r→wr r≠none→D j=D' j)→cF wr D rs x=cF wr D' rs x
 | [],_,_,_,_=>rfl
 |r::rs,D,D',x,h=>by
  simp only [cF]
  rw [jX (D':=fun i=>D' (i+1)) fun j r' hj hd=>h (j+1) r' (by simpa using hj) hd]
  congr 1
  by_cases hw:wr r=none
  ·simp only [hw,Option.getD_none];cases D 0 <;> cases D' 0 <;> rfl
  ·rw [h 0 r rfl hw]
theorem vM {wr:Rec→Option X} :∀ {rs:List Rec} {D:Nat→Bool} {x:X} {i:Nat} {r:Rec},rs[i]? =some r→D i=false→(wr r≠none→∀(j:Nat) r',rs[j]? =some r'→i<j→D j=true→wr r'=none)→
 cF wr (fun j=>j==i||D j) rs x=(wr r).getD (cF wr D rs x)
 | [],_,_,i,_,hi,_,_=>by simp at hi
 |q::rs,D,x,0,r,hi,hD,h=>by
  simp only [zF,Option.some.injEq] at hi
  subst hi
  have e1:cF wr (fun j=>j==0||D j) (q::rs) x=cF wr (fun i=>D (i+1)) rs ((wr q).getD x):=by
   simp only [cF]
   simp
  have e2:cF wr D (q::rs) x=cF wr (fun i=>D (i+1)) rs x:=by simp only [cF,hD]
  rw [e1,e2]
  cases hw:wr q with
  |none=>rfl
  |some v=>exact kS fun j r' hj hd=>h (by simp [hw]) (j+1) r' (by simpa using hj) (by omega) hd
 |q::rs,D,x,i+1,r,hi,hD,h=>by
  have :=vM (wr:=wr) (rs:=rs) (D:=fun j=>D (j+1)) (x:=match D 0 with |true=>(wr q).getD x |false=>x) (i:=i) (r:=r) (by simpa using hi) hD fun hw j r' hj hlt hd=>h hw (j+1) r' (by simpa using hj) (by omega) hd
  simp only [cF]
  rw [←this]
  congr 1
  funext j
  simp
theorem aEQ {wr:Rec→Option X} :∀ {rs:List Rec} {D:Nat→Bool} {x:X},cF wr D rs x=x∨∃(j:Nat) (r:Rec) (v:X),rs[j]? =some r∧D j=true∧wr r=some v∧cF wr D rs x=v
 | [],_,_=>.inl rfl
 |q::rs,D,x=>by
  simp only [cF]
  rcases aEQ (wr:=wr) (rs:=rs) (D:=fun i=>D (i+1)) (x:=match D 0 with |true=>(wr q).getD x |false=>x) with h | ⟨j,r,v,h1,h2,h3,h4⟩
  ·rw [h]
   cases hd:D 0 with
   |false=>exact .inl rfl
   |true=>
    cases hw:wr q with
    |none=>exact .inl rfl
    |some v=>exact .inr ⟨0,q,v,rfl,hd,hw,rfl⟩
  ·exact .inr ⟨j+1,r,v,by simpa using h1,h2,h3,h4⟩
end fold
def wrS(t:Nat)(r:Rec):Option (Option SV):=if r.d=some t then some (some r.s) else none
def wrO(k:Nat)(r:Rec):Option (Option Obj):=if k∈r.ids then some (r.S1.get k) else none
theorem aV5 {t:Nat} {r:Rec} (h:wrS t r≠none):r.d=some t:=by
 unfold wrS at h;split at h
 ·assumption
 ·exact absurd rfl h
theorem aV4 {t:Nat} {r:Rec} (h:wrO t r≠none):t∈r.ids:=by
 unfold wrO at h;split at h
 ·assumption
 ·exact absurd rfl h
section
variable {P:Program} {N n:Nat}
theorem aRT [vF] {ops:Array Oper} :∀(l:List oD) (ms:List Nat) (os:List Oper) (st:St) (K:List Rec→St→Prop),dI P ops N os=some l→lY P l ms st K→(∀m∈ms,m+16≤n)→
 ∃recs stF,K recs stF∧recs.length=os.length∧ms.length=os.length∧(∀t,eT stF.sl t=cF (wrS t) (fun _=>true) recs (eT st.sl t))∧(∀k,stF.so.get k=cF (wrO k) (fun _=>true) recs (st.so.get k))∧stF.nx=st.nx∧
  ∀(j:Nat) r o m,recs[j]? =some r→os[j]? =some o→ms[j]? =some m→aR6 r m∧∃SL SO,(∀d s,(d,s)∈SL→d∈r.rd∧cF (wrS d) (fun i=>decide (i<j)) recs (eT st.sl d)=some s)∧
   (∀S:aC,(∀k∈r.T,S.get k=cF (wrO k) (fun i=>decide (i<j)) recs (st.so.get k))→gK S r.T=SO)∧Loc P N n ops o r SL SO:=by
 intro l
 induction l with
 |nil=>
  intro ms os st K hr hK _
  cases ms with
  |cons=>exact hK.elim
  |nil=>
   cases os with
   |nil=>exact⟨[],st,hK,rfl,rfl,fun _=>rfl,fun _=>rfl,rfl,fun j r o m h=>by simp at h⟩
   |cons o os=>
    simp only [dI] at hr
    split at hr <;> cases hr
 |cons x l ih=>
  intro ms os st K hr hK hm
  obtain⟨d,g,i⟩:=x
  cases ms with
  |nil=>exact hK.elim
  |cons m ms=>
   cases os with
   |nil=>simp [dI] at hr
   |cons o os=>
    simp only [dI] at hr
    split at hr
    ·rename_i i' g' d' l' h1 h2 h3 h4
     obtain⟨hx,rfl⟩:=List.cons.inj (Option.some.inj hr)
     obtain⟨rfl,rfl,rfl⟩:=oD.mk.inj hx
     simp only [lY] at hK
     obtain⟨r,hK,hd,hno,SL,hSL,hloc⟩:=aPB (n:=n) (ops:=ops) hK h1 h2 h3 (hm m (by simp))
     obtain⟨recs,stF,q1,q2,q3,q4,q5,q6,q7⟩:=ih ms os _ _ h4 hK fun m hm'=>hm m (zD _ hm')
     have eS:∀t,eT (aA1 st.sl r.d r.s) t=(wrS t r).getD (eT st.sl t):=fun t=>by
      rw [aIG];unfold wrS;split <;> rfl
     have eO:∀k,(uO st.so r.S1 r.ids).get k=(wrO k r).getD (st.so.get k):=fun k=>by
      rw [nS];unfold wrO;split <;> rfl
     refine⟨r::recs,stF,q1,by simp [q2],by simp [q3],fun t=>?_,fun k=>?_,q6,fun j r' o' m' hj ho hm'=>?_⟩
     ·rw [q4 t];simp only [cF,eS]
     ·rw [q5 k];simp only [cF,eO]
     ·cases j with
      |zero=>
       simp only [zF,Option.some.injEq] at hj ho hm'
       subst hj ho hm'
       refine⟨hno,SL,_,fun d s hm=>⟨(hSL d s hm).1,?_⟩,fun S hS=>aAL fun k hk=>?_,hloc⟩
       ·rw [kS fun j r _ h=>by simp at h];exact(hSL d s hm).2
       ·rw [hS k hk,kS fun j r _ h=>by simp at h]
      |succ j=>
       obtain⟨a1,SL',SO',a2,a3,a4⟩:=q7 j r' o' m' (by simpa using hj) (by simpa using ho) (by simpa using hm')
       refine⟨a1,SL',SO',fun d s hm=>⟨(a2 d s hm).1,?_⟩,fun S hS=>a3 S fun k hk=>?_,a4⟩
       ·rw [←(a2 d s hm).2]
        simp only [cF,eS]
        simp
       ·rw [hS k hk]
        simp only [cF,eO]
        simp
    ·cases hr
end
def lZ(o:Oper):List Nat:=(o.after.toList.filter (Region.binds .any)).map (·.on)
def aRB(an:List (List Nat))(i:Nat):List Nat→Bool
 | []=>false
 |p::r=>(Nat.beq i p||gE i (an.getD p []))||aRB an i r
def aMN(an:List (List Nat))(pr:List Nat):List Nat→Bool
 | []=>true
 |i::r=>aRB an i pr&&aMN an pr r
def aHL(an:List (List Nat)):List Oper→List (List Nat)→Nat→Bool
 |o::os,a::as,j=>aBY j (lZ o)&&(aMN an (lZ o) a&&aHL an os as (j+1))
 | [],[],_=>true
 |_,_,_=>false
def bDI:List Nat→List Nat→List Nat
 | [],l=>l
 |a::r,l=>if gE a l then bDI r l else bDI r (a::l)
def aR9(acc:List (List Nat)):List Nat→List Nat→List Nat
 | [],l=>l
 |p::r,l=>if gE p l then aR9 acc r l else aR9 acc r (p::bDI (acc.getD p []) l)
def aX6:List (List Nat)→List (List Nat)→List (List Nat)
 | [],acc=>acc
 |e::r,acc=>aX6 r (acc++ [aR9 acc e.reverse []])
def gU(b:Nat):Nat→List Nat
 |0=> []
 |c+1=>b::gU (b+16) c
def shM(d:Nat):List Nat→List Nat
 | []=> []
 |m::r=>(m+d)::shM d r
theorem aFJ(d:Nat):∀(c b:Nat),shM d (gU b c)=gU (b+d) c
 |0,_=>rfl
 |c+1,b=>by
  simp only [gU,shM,aFJ d c]
  rw [show b+16+d=b+d+16 by omega]
theorem qC:∀ {c b j:Nat},(gU b c)[j]? =if j<c then some (b+16*j) else none
 |0,_,_=>by simp [gU]
 |c+1,b,0=>by simp [gU]
 |c+1,b,j+1=>by
  simp only [gU,List.getElem?_cons_succ,qC]
  by_cases h:j<c
  ·rw [if_pos h,if_pos (by omega)];congr 1;omega
  ·rw [if_neg h,if_neg (by omega)]
theorem aED {an:List (List Nat)} {i:Nat} :∀ {l:List Nat},aRB an i l=true→∃p∈l,i=p∨i∈an.getD p []
 | [],h=>by simp [aRB] at h
 |p::r,h=>by
  simp only [aRB,Bool.or_eq_true] at h
  rcases h with (h |h)|h
  ·exact⟨p,by simp,.inl (zY h)⟩
  ·exact⟨p,by simp,.inr (fJ.1 h)⟩
  ·obtain⟨q,h1,h2⟩:=aED h;exact⟨q,zD _ h1,h2⟩
theorem aBZ {an:List (List Nat)} {pr:List Nat} :∀ {l:List Nat},aMN an pr l=true→∀i∈l,∃p∈pr,i=p∨i∈an.getD p []
 | [],_,i,h=>by simp at h
 |a::r,h,i,hi=>by
  simp only [aMN,zC] at h
  rcases List.mem_cons.1 hi with rfl |hi
  ·exact aED h.1
  ·exact aBZ h.2 i hi
theorem aEC {an:List (List Nat)} :∀ {os:List Oper} {as:List (List Nat)} {k:Nat},aHL an os as k=true→as.length=os.length∧∀(j:Nat) o a,os[j]? =some o→as[j]? =some a→(∀p∈lZ o,p<k+j)∧∀i∈a,∃p∈lZ o,i=p∨i∈an.getD p []
 | [],[],_,_=>⟨rfl,fun j o a h=>by simp at h⟩
 | [],_::_,_,h=>by simp [aHL] at h
 |_::_,[],_,h=>by simp [aHL] at h
 |o::os,a::as,k,h=>by
  simp only [aHL,zC] at h
  obtain⟨h1,h2,h3⟩:=h
  obtain⟨h4,h5⟩:=aEC h3
  refine⟨by simp [h4],fun j o' a' ho ha=>?_⟩
  cases j with
  |zero=>
   simp only [zF,Option.some.injEq] at ho ha
   subst ho ha
   exact⟨sR h1,aBZ h2⟩
  |succ j=>
   obtain⟨a1,a2⟩:=h5 j o' a' (by simpa using ho) (by simpa using ha)
   exact⟨fun p hp=>by have :=a1 p hp;omega,a2⟩
theorem tT {r:Rec} {i:Nat} :∀ {rs:List Rec} {an:List (List Nat)},aBK r i rs an=true→∀(j:Nat) r' a,rs[j]? =some r'→an[j]? =some a→(i∈a∧qS r'.d r.cs=true)∨indep r r'=true
 | [],_,_,j,r',a,h,_=>by simp at h
 |_::_,[],_,j,r',a,_,h=>by simp at h
 |q::rs,b::an,h,j,r',a,hj,ha=>by
  simp only [aBK,zC] at h
  cases j with
  |zero=>
   simp only [zF,Option.some.injEq] at hj ha
   subst hj ha
   cases hb:gE i b with
   |true=>rw [hb] at h;exact .inl ⟨fJ.1 hb,h.1⟩
   |false=>rw [hb] at h;exact .inr h.1
  |succ j=>exact tT h.2 j r' a (by simpa using hj) (by simpa using ha)
theorem aCB:∀ {rs:List Rec} {an:List (List Nat)} {k:Nat},lX rs an k=true→∀(i j:Nat) r r' a,i<j→rs[i]? =some r→rs[j]? =some r'→an[j]? =some a→(k+i∈a∧qS r'.d r.cs=true)∨indep r r'=true
 | [],_,_,_,i,j,r,r',a,_,h,_,_=>by simp at h
 |_::_,[],_,_,i,j,r,r',a,_,_,_,h=>by simp at h
 |q::rs,b::an,k,h,i,j,r,r',a,hij,hi,hj,ha=>by
  simp only [lX,zC] at h
  cases j with
  |zero=>omega
  |succ j=>
   cases i with
   |zero=>
    simp only [zF,Option.some.injEq] at hi
    subst hi
    simpa using tT h.1 j r' a (by simpa using hj) (by simpa using ha)
   |succ i=>
    have :=aCB h.2 i j r r' a (by omega) (by simpa using hi) (by simpa using hj) (by simpa using ha)
    rwa [show k+1+i=k+(i+1) by omega] at this
structure aMH(r r':Rec):Prop where
 d1:∀x∈r'.rd,r.d≠some x
 d2:∀x∈r.rd,r'.d≠some x
 d3:∀t,r.d=some t→r'.d≠some t
 o1:∀k∈r.ids,k∉r'.T
 o2:∀k∈r.ids,k∉r'.ids
 o3:∀k∈r'.ids,k∉r.T
 o4:∀k∈r'.ids,¬(r.m≤k∧k<r.m+16)
theorem aL8 {r r':Rec} (h:indep r r'=true):aMH r r':=by
 simp only [indep,zC] at h
 obtain⟨h1,h2,h3,h4,h5,h6,h7⟩:=h
 refine⟨oY h1,oY h2,fun t ht ht'=>?_,oO h4,oO h5,oO h6,sS h7⟩
 rw [ht,ht'] at h3
 simp at h3
def pS:aX→List Nat
 | []=> []
 | (d,_)::r=>d::pS r
end Go.Sk
namespace Go.Sk
open Go Go.RowKit
variable [fQ]
section
variable {P:Program} {N:Nat}
theorem aKE.of [vF] {U:Nat→Prop} {σ:Sg} {st:St} {act:Act} {w:World} (h:cP U N σ st act w):aKE U N σ (eT st.sl) st.so st.nx act w:=
 ⟨h.rel,h.sz,h.df,fun d s hs=>h.sl d s (iP hs)⟩
theorem cP.of_keep [vF] {U:Nat→Prop} {σ:Sg} {st:St} {act:Act} {w w':World} (h:cP U N σ st act w)(hk:cM (fun _=>False) w w'):cP U N σ st act w':=by
 refine⟨h.rel.of_keep hk,h.sz,h.df,fun d s hm=>?_⟩
 have g:=bL.of_keep (σ:=σ) (S:=st.so) (n:=st.nx) hk
 have :=h.sl d s hm
 unfold SVR at this⊢
 split
 ·rename_i hc;rw [hc] at this;exact this.grow g
 ·rename_i gg r hc;rw [hc] at this
  exact⟨this.1,fun hh=>⟨(this.2.1 hh).1,(this.2.1 hh).2.grow g⟩,this.2.2⟩
def unl(n:Nat)(listed:Array Bool):List Nat:=(List.range n).filter fun i=> !listed.getD i true
theorem aYH {n i:Nat} {listed:Array Bool} (hs:listed.size=n)(hi:listed.getD i true=false):(unl n (listed.setIfInBounds i true)).length< (unl n listed).length:=by
 have hin:i<n:=by
  apply zV
  intro hle
  rw [zA,Array.getElem?_eq_none (by omega)] at hi
  simp at hi
 have :unl n (listed.setIfInBounds i true)=(unl n listed).filter fun j=>j != i:=by
  unfold unl
  rw [List.filter_filter]
  apply List.filter_congr
  intro j hj
  by_cases h:j=i
  ·subst h
   simp [zA,zK (show j<listed.size by omega)]
  ·simp [h,zA,zM (Ne.symm h)]
 rw [this,List.length_filter_lt_length_iff_exists]
 exact⟨i,List.mem_filter.2 ⟨List.mem_range.2 hin,by rw [hi];rfl⟩,by simp⟩
theorem aF4 {o:Oper} {p:Nat} :p∈lZ o↔∃e∈o.after,Region.binds .any e=true∧e.on=p:=by
 simp [lZ,and_assoc]
theorem aAF [vF] {U:Nat→Prop} {id:Nat} {ops:Array Oper} {l:List oD} {an:List (List Nat)} {b0 n:Nat} (hm:P.follows .mixedOrders=true)(hres:dI P ops N ops.toList=some l)(han:aHL an ops.toList an 0=true)(hn:b0+16*ops.size=n)
 {σ0:Sg} {st0:St} {act0:Act} {w00:World} (hrel00:cP U N σ0 st0 act0 w00) (hcl:∀p∈st0.sl,p.2.ch=[]) (hb0:st0.nx≤b0) {K:St→Prop}
 (hK:lY P l (gU b0 ops.size) ⟨st0.sl,st0.so,n⟩ fun recs stF=>lX recs an 0=true∧K ⟨look stF.sl (pS stF.sl),stF.so,stF.nx⟩) {Q:Exit→Act→World→Prop}
 (hQ:∀σ' st' act' w',K st'→cP U N σ' st' act' w'→bL σ0 st0.so w00 st0.nx σ' st'.so w' st'.nx→Q .normal act' w'):(Code.region id ops true).wp P Q act0 w00:=by
 refine wp_region_any hm ?_
 have hk0:cM (fun _=>False) w00 { w00 with drawn:=w00.drawn+1 } :=⟨rfl,rfl,rfl,yD _,fun _ _ _=>rfl⟩
 have hrel0:=hrel00.of_keep hk0
 have hg0:bL σ0 st0.so w00 st0.nx σ0 st0.so { w00 with drawn:=w00.drawn+1 } n:=by
  have g:=bL.of_keep (σ:=σ0) (S:=st0.so) (n:=st0.nx) hk0
  exact⟨g.keep,g.own,g.sg,by omega⟩
 generalize({ w00 with drawn:=w00.drawn+1 } :World)=w0 at hrel0 hg0⊢
 obtain⟨recs,stF,⟨hcomm,hKF⟩,hlen,-,hFs,hFo,hFn,hloc⟩:=aRT (n:=n) (ops:=ops) l (gU b0 ops.size) ops.toList _ _ hres hK (fun m hmm=>by
  obtain⟨j,hj⟩:=List.getElem?_of_mem hmm
  rw [qC] at hj
  split at hj
  ·obtain rfl:=Option.some.inj hj;omega
  ·cases hj)
 simp only at hFs hFo hFn hloc
 have hlen:=hlen.trans zH
 obtain⟨hanl,hanj⟩:=aEC han
 have hanl:=hanl.trans zH
 have fact:∀i o,ops[i]? =some o→∃r a,recs[i]? =some r∧an[i]? =some a∧i<ops.size∧(∀p∈lZ o,p<i)∧(∀k∈a,∃p∈lZ o,k=p∨k∈an.getD p [])∧aR6 r (b0+16*i)∧∃SL SO,(∀d s,(d,s)∈SL→d∈r.rd∧cF (wrS d) (fun j=>decide (j<i)) recs (eT st0.sl d)=some s)∧
  (∀S:aC,(∀k∈r.T,S.get k=cF (wrO k) (fun j=>decide (j<i)) recs (st0.so.get k))→gK S r.T=SO)∧Loc P N n ops o r SL SO:=by
  intro i o ho
  have hi:i<ops.size:=(Array.getElem?_eq_some_iff.1 ho).1
  have hr:=zG (l:=recs) (i:=i) (by omega)
  have ha:=zG (l:=an) (i:=i) (by omega)
  have ho':ops.toList[i]? =some o:=by simpa using ho
  obtain⟨e1,e2⟩:=hanj i o _ ho' ha
  obtain⟨e3,e4⟩:=hloc i _ o (b0+16*i) hr ho' (by rw [qC,if_pos hi])
  exact⟨_,_,hr,ha,hi,fun p hp=>by have :=e1 p hp;omega,e2,e3,e4⟩
 have down:∀ {D:Nat→Bool},(∀j o,ops[j]? =some o→D j=true→∀p∈lZ o,D p=true)→∀j,j<ops.size→D j=true→∀a,an[j]? =some a→∀i∈a,D i=true:=by
  intro D hD j
  induction j using Nat.strongRecOn with
  |_ j ih=>
   intro hj hDj a ha i hi
   have ho:=zE hj
   obtain⟨r,a',-,ha',-,e1,e2,-⟩:=fact j _ ho
   obtain rfl:a=a':=Option.some.inj (ha.symm.trans ha')
   obtain⟨p,hp,h⟩:=e2 i hi
   have hDp:=hD j _ ho hDj p hp
   have hpj:=e1 p hp
   rcases h with rfl |h
   ·exact hDp
   ·have hap:=zG (l:=an) (i:=p) (by omega)
    rw [zP,hap] at h
    exact ih p hpj (by omega) hDp _ hap i h
 have comm:∀(i j:Nat) r r' a,i<j→recs[i]? =some r→recs[j]? =some r'→an[j]? =some a→(i∈a∧qS r'.d r.cs=true)∨aMH r r':=fun i j r r' a hij hi hj ha=>by
  rcases aCB hcomm i j r r' a hij hi hj ha with h |h
  ·exact .inl (by simpa using h)
  ·exact .inr (aL8 h)
 have main:∀(fuel:Nat) (listed:Array Bool) (act:Act) (w:World),listed.size=ops.size→(unl ops.size listed).length≤fuel→
  (∃σ S,(∀k,S.get k=cF (wrO k) (fun i=>listed.getD i false) recs (st0.so.get k))∧aKE U N σ (fun t=>cF (wrS t) (fun i=>listed.getD i false) recs (eT st0.sl t)) S n act w∧bL σ0 st0.so w00 st0.nx σ S w n∧
   (∀i q,i<ops.size→listed.getD i false=false→q<16→σ (b0+16*i+q)=none)∧(∀j o,ops[j]? =some o→listed.getD j false=true→∀p∈lZ o,listed.getD p false=true))→
  wpAny P .any ops Q fuel listed act w:=by
  have tf:∀(listed:Array Bool),listed.size=ops.size→∀i,i<ops.size→listed.getD i true=listed.getD i false:=fun listed hs i hi=>by
   rw [zA,zA,zE (by omega)];rfl
  have done:∀(listed:Array Bool) (act:Act) (w:World),listed.size=ops.size→Region.ready .any ops listed=[]→(∃σ S,(∀k,S.get k=cF (wrO k) (fun i=>listed.getD i false) recs (st0.so.get k))∧aKE U N σ (fun t=>cF (wrS t) (fun i=>listed.getD i false) recs (eT st0.sl t)) S n act w∧bL σ0 st0.so w00 st0.nx σ S w n)→Q .normal act w:=by
   intro listed act w hs hr ⟨σ,S,hS,hrel,hg⟩
   have hall:∀i,i<ops.size→listed.getD i false=true:=by
    intro i
    induction i using Nat.strongRecOn with
    |_ i ih=>
     intro hi
     have ho:=zE hi
     obtain⟨r,a',-,-,-,e1,-⟩:=fact i _ ho
     cases hd:listed.getD i false with
     |true=>rfl
     |false=>
      have :i∈Region.ready .any ops listed:=mem_ready.2 ⟨by rw [tf listed hs i hi];exact hd,_,ho,fun e he hb=>by
       have hp:=e1 e.on (aF4.2 ⟨e,he,hb,rfl⟩)
       exact ih e.on hp (by omega)⟩
      rw [hr] at this
      cases this
   have cg:∀(j:Nat) r,recs[j]? =some r→listed.getD j false=true:=fun j r hj=>hall j (by have :=(List.getElem?_eq_some_iff.1 hj).1;omega)
   have hSF:∀k,S.get k=stF.so.get k:=fun k=>by
    rw [hS k,hFo k];exact jX fun j r hj _=>cg j r hj
   refine hQ σ _ act w hKF ⟨?_,hrel.sz,hrel.df,fun d s hmm=>?_⟩ ?_
   ·simp only;rw [hFn];exact hrel.rel.congr fun k=>(hSF k).symm
   ·have hs:=(kZ hmm).2
    rw [hFs d] at hs
    have :=hrel.sl d s (by rw [←hs];exact jX fun j r hj _=>cg j r hj)
    have hO:Own U σ S=Own U σ stF.so:=by
     funext b
     unfold Own gB
     simp only [hSF]
    rw [hO] at this
    exact this
   ·simp only
    rw [hFn]
    refine⟨hg.keep,fun b hb hO=>hg.own b hb ?_,hg.sg,hg.nx⟩
    obtain⟨k,o,es,cap,h1,h2⟩:=hO
    exact⟨k,o,es,cap,by rw [hSF];exact h1,h2⟩
  intro fuel
  induction fuel with
  |zero=>
   rintro listed act w hs hf ⟨σ,S,h1,h2,h3,-⟩
   have hu:unl ops.size listed=[]:=List.length_eq_zero_iff.1 (by omega)
   have hr:Region.ready .any ops listed=[]:=by
    rw [List.eq_nil_iff_forall_not_mem]
    intro i hi
    obtain⟨a1,o,a2,-⟩:=mem_ready.1 hi
    have :i∈unl ops.size listed:=List.mem_filter.2 ⟨List.mem_range.2 (Array.getElem?_eq_some_iff.1 a2).1,by rw [a1];rfl⟩
    rw [hu] at this
    cases this
   exact⟨hr,done listed act w hs hr ⟨σ,S,h1,h2,h3⟩⟩
  |succ fuel ih=>
   intro listed act w hs hf ⟨σ,S,h1,h2,h3,h4,h5⟩
   refine⟨fun hr=>done listed act w hs hr ⟨σ,S,h1,h2,h3⟩,fun i hi=>?_⟩
   obtain⟨a1,o,ho,a3⟩:=mem_ready.1 hi
   obtain⟨r,a,hr,ha,hisz,e1,e2,e3,SL,SO,e4,e5,e6⟩:=fact i o ho
   have hDi:listed.getD i false=false:=by rw [←tf listed hs i hisz];exact a1
   have hpre:∀p∈lZ o,listed.getD p false=true:=fun p hp=>by
    obtain⟨e,he,hb,rfl⟩:=aF4.1 hp;exact a3 e he hb
   have hanc:∀j∈a,listed.getD j false=true:=fun j hj=>by
    obtain⟨p,hp,h⟩:=e2 j hj
    have hpi:=e1 p hp
    rcases h with rfl |h
    ·exact hpre _ hp
    ·have hap:=zG (l:=an) (i:=p) (by omega)
     rw [zP,hap] at h
     exact down h5 p (by omega) (hpre p hp) _ hap j h
   have other:∀(j:Nat) r',recs[j]? =some r'→(j<i∧((listed.getD j false=true∧qS r.d r'.cs=true)∨aMH r' r))∨j=i∨(i<j∧(listed.getD j false=false∨aMH r r')):=by
    intro j r' hj
    rcases Nat.lt_trichotomy j i with h |h |h
    ·left;refine⟨h,?_⟩
     rcases comm j i r' r a h hj hr ha with ⟨h1,h2⟩|h1
     ·exact .inl ⟨hanc j h1,h2⟩
     ·exact .inr h1
    ·exact .inr (.inl h)
    ·right;right;refine⟨h,?_⟩
     have hjl:j<ops.size:=by have :=(List.getElem?_eq_some_iff.1 hj).1;omega
     have haj:=zG (l:=an) (i:=j) (by omega)
     rcases comm i j r r' _ h hr hj haj with ⟨h1,h2⟩|h1
     ·left
      cases hd:listed.getD j false with
      |false=>rfl
      |true=>rw [down h5 j hjl hd _ haj i h1] at hDi;cases hDi
     ·exact .inr h1
   have agreeS:∀d∈r.rd,cF (wrS d) (fun j=>listed.getD j false) recs (eT st0.sl d)=cF (wrS d) (fun j=>decide (j<i)) recs (eT st0.sl d):=by
    intro d hd
    refine jX fun j r' hj hw=>?_
    have hw':=aV5 hw
    rcases other j r' hj with ⟨h,h' |h'⟩|h | ⟨h,h' |h'⟩
    ·rw [h'.1];simp [h]
    ·exact absurd hw' (h'.d1 d hd)
    ·subst h;rw [hDi];simp
    ·rw [h'];simp;omega
    ·exact absurd hw' (h'.d2 d hd)
   have agreeO:∀k∈r.T,cF (wrO k) (fun j=>listed.getD j false) recs (st0.so.get k)=cF (wrO k) (fun j=>decide (j<i)) recs (st0.so.get k):=by
    intro k hk
    refine jX fun j r' hj hw=>?_
    have hw':=aV4 hw
    rcases other j r' hj with ⟨h,h' |h'⟩|h | ⟨h,h' |h'⟩
    ·rw [h'.1];simp [h]
    ·exact absurd hk (h'.o1 k hw')
    ·subst h;rw [hDi];simp
    ·rw [h'];simp;omega
    ·exact absurd hk (h'.o3 k hw')
   have hmr:r.m=b0+16*i:=e3.m
   unfold wpOp
   simp only [ho]
   have step:=e6 U σ _ S act w (fun act' w'=>wpAny P .any ops Q fuel (listed.setIfInBounds i true) act' w') Q h2 (fun d s hmm=>by rw [agreeS d (e4 d s hmm).1];exact(e4 d s hmm).2)
    (e5 S fun k hk=>by rw [h1 k];exact agreeO k hk) (fun q hq=>⟨?_,by rw [hmr];exact h4 i q hisz hDi hq⟩) (fun t s ht x hx hd=>?_) fun σ' cv w' hrel' hg' hσ'=>?_
   ·split
    ·rename_i hw;rw [if_pos hw] at step;exact .inl step
    ·rename_i hw;rw [if_neg hw] at step;exact step
   ·rw [h1,kS fun j r' hj hDj=>?_]
    ·exact(hrel0.rel.fresh _ (by omega)).1
    ·unfold wrO
     rw [if_neg]
     intro hk
     have hjl:j<ops.size:=by have :=(List.getElem?_eq_some_iff.1 hj).1;omega
     obtain⟨r'',-,hr'',-,-,-,-,hno,-⟩:=fact j _ (zE hjl)
     obtain rfl:r'=r'':=Option.some.inj (hj.symm.trans hr'')
     have hlt:=hno.ids _ hk
     rcases other j r' hj with ⟨h,-⟩|h | ⟨h,h' |h'⟩
     ·omega
     ·subst h;rw [hDi] at hDj;cases hDj
     ·rw [h'] at hDj;cases hDj
     ·exact h'.o4 _ hk ⟨by omega,by omega⟩
   ·rcases aEQ (wr:=wrS t) (rs:=recs) (D:=fun j=>listed.getD j false) (x:=eT st0.sl t) with h | ⟨j,r',v,hj,hDj,hv,hF⟩
    ·rw [h] at ht
     have :=hcl _ (iP ht)
     simp only at this
     rw [this] at hx
     cases hx
    ·rw [hF] at ht
     unfold wrS at hv
     split at hv
     ·obtain rfl:=Option.some.inj hv
      obtain rfl:=Option.some.inj ht
      have hjl:j<ops.size:=by have :=(List.getElem?_eq_some_iff.1 hj).1;omega
      obtain⟨r'',-,hr'',-,-,-,-,hno,-⟩:=fact j _ (zE hjl)
      obtain rfl:r'=r'':=Option.some.inj (hj.symm.trans hr'')
      obtain⟨c1,c2⟩:=hno.cs x hx
      rcases other j r' hj with ⟨h,h' |h'⟩|h | ⟨h,h' |h'⟩
      ·exact oY h'.2 _ c1 hd
      ·exact h'.d2 _ c2 hd
      ·subst h;rw [hDi] at hDj;cases hDj
      ·rw [h'] at hDj;cases hDj
      ·exact h'.d1 _ c2 hd
     ·cases hv
   ·
    have hset:∀j,(listed.setIfInBounds i true).getD j false=(j==i||listed.getD j false):=fun j=>by
     by_cases h:j=i
     ·subst h
      rw [zA,zK (by omega)];simp
     ·rw [zA,zM (Ne.symm h),←zA];simp [h]
    have hDD:(fun j=>(listed.setIfInBounds i true).getD j false)=fun j=>j==i||listed.getD j false:=funext hset
    have addS:∀t,cF (wrS t) (fun j=>(listed.setIfInBounds i true).getD j false) recs (eT st0.sl t)=if r.d=some t then some r.s else cF (wrS t) (fun j=>listed.getD j false) recs (eT st0.sl t):=fun t=>by
     rw [hDD,vM hr hDi fun hw j r' hj hlt hDj=>?_]
     ·unfold wrS;split <;> rfl
     ·rcases other j r' hj with ⟨h,-⟩|h | ⟨h,h' |h'⟩
      ·omega
      ·omega
      ·rw [h'] at hDj;cases hDj
      ·unfold wrS;rw [if_neg (h'.d3 t (aV5 hw))]
    have addO:∀k,cF (wrO k) (fun j=>(listed.setIfInBounds i true).getD j false) recs (st0.so.get k)=if k∈r.ids then r.S1.get k else cF (wrO k) (fun j=>listed.getD j false) recs (st0.so.get k):=fun k=>by
     rw [hDD,vM hr hDi fun hw j r' hj hlt hDj=>?_]
     ·unfold wrO;split <;> rfl
     ·rcases other j r' hj with ⟨h,-⟩|h | ⟨h,h' |h'⟩
      ·omega
      ·omega
      ·rw [h'] at hDj;cases hDj
      ·unfold wrO;rw [if_neg (h'.o2 k (aV4 hw))]
    refine ih _ _ w' (by simp [hs]) (by have :=aYH hs a1;omega) ⟨σ',_,fun k=>?_,?_,h3.trans hg',fun i' q hi' hD' hq=>?_,fun j o' ho' hDj p hp=>?_⟩
    ·rw [nS,addO k,h1 k]
    ·have :(fun t=>cF (wrS t) (fun j=>(listed.setIfInBounds i true).getD j false) recs (eT st0.sl t))=fun t=>if r.d=some t then some r.s else cF (wrS t) (fun j=>listed.getD j false) recs (eT st0.sl t):=funext addS
     rw [this];exact hrel'
    ·rw [hset] at hD'
     simp only [Bool.or_eq_false_iff,beq_eq_false_iff_ne] at hD'
     rw [hσ' _ (by rw [hmr];have :=hD'.1;omega)]
     exact h4 i' q hi' hD'.2 hq
    ·rw [hset] at hDj⊢
     simp only [Bool.or_eq_true,beq_iff_eq] at hDj⊢
     right
     rcases hDj with rfl |hDj
     ·obtain rfl:o=o':=Option.some.inj (ho.symm.trans ho')
      exact hpre p hp
     ·exact h5 j o' ho' hDj p hp
 have hrep:∀(i:Nat),(zJ ops.size false).getD i false=false:=fun i=>by
  rw [zA,Array.getElem?_replicate];split <;> rfl
 refine main ops.size _ act0 w0 (by simp) ?_ ⟨σ0,st0.so,fun k=>?_,?_,hg0,fun i q hi _ _=>(hrel0.rel.fresh _ (by omega)).2,fun j o ho hD=>by rw [hrep] at hD;cases hD⟩
 ·exact Nat.le_trans (List.length_filter_le _ _) (by simp)
 ·rw [kS fun j r _ h=>by rw [hrep] at h;cases h]
 ·have :(fun t=>cF (wrS t) (fun i=>(zJ ops.size false).getD i false) recs (eT st0.sl t))=eT st0.sl:=funext fun t=>kS fun j r _ h=>by rw [hrep] at h;cases h
  rw [this]
  have :=aKE.of hrel0
  exact⟨this.rel.wider (by omega),this.sz,this.df,this.sl⟩
end
end Go.Sk
namespace Go.Sk
open Go Go.RowKit
variable [fQ]
inductive RC where
 |skip
 |reg (l:List oD) (kill:List Nat)
 |dreg (b0 n:Nat) (l:List oD) (kill:List Nat) (an:List (List Nat)) (ms:List Nat)
 |seq (a b:RC)
 |cut (a b:RC)
 |regc (a b:List oD) (kill:List Nat)
 |regv (a:List oD) (d:Nat) (b:List oD) (kill:List Nat)
 |cond (c:A) (a b:RC)
 |block (id:Nat) (c:RC)
 |loop (c:RC)
 |uloop (c:RC)
 |exit (id:Nat)
 |ret
 |bad
inductive Ex where
 |normal
 |exit (id:Nat)
 |ret
def bEK:Ex→Exit
 | .normal=>.normal
 | .exit id=>.exit id
 | .ret=>.ret
def clean(kill:List Nat):aX→aX
 | []=> []
 | (d,s)::r=>match s.ch with
   | []=>if gE d kill=true then clean kill r else(d,s)::clean kill r
   |_::_=>clean kill r
theorem gF {kill:List Nat} :∀ {l:aX} {p:Nat×SV},p∈clean kill l→p∈l∧p.2.ch=[]
 | [],_,h=>by simp [clean] at h
 | (d,s)::r,p,h=>by
   simp only [clean] at h
   split at h
   ·rename_i hc
    split at h
    ·have :=gF h;exact⟨zD _ this.1,this.2⟩
    ·rcases List.mem_cons.1 h with rfl |h
     ·exact⟨by simp,hc⟩
     ·have :=gF h;exact⟨zD _ this.1,this.2⟩
   ·have :=gF h;exact⟨zD _ this.1,this.2⟩
def uZ(sl:aX)(S:aC)(ids:List (Option Nat)):aX→Prop
 | []=>True
 | (d,s)::r=>s.ch=[]∧vw2 S ids (bN sl [] (.t d)) s.v∧uZ sl S ids r
def View(n0:Nat)(st st':St):Prop:=
 ∃ids obs,st'.so=aL 0 obs∧st'.nx=obs.length∧mN st.so ids ids obs∧oW ids=true∧mA 0 n0 ids∧Nat.ble n0 obs.length=true∧uZ st.sl st.so ids st'.sl
def aY7(st:St)(d:Nat)(K:St→Prop):Prop:=
 match eT st.sl d with
 |some ⟨[],gc,.sl k off len⟩=>match st.so.get k with
  |some (.row _ _)=>∀c,len≤c→c≤9223372036854775807→K ⟨aDO st.sl d ⟨[],gc,.slk k off len c⟩,st.so,st.nx⟩
  |_=>False
 |_=>False
def sL(f:St→(Ex→St→Prop)→Prop)(K:Ex→St→Prop):Nat→St→Prop
 |0,_=>False
 |n+1,st=>f st fun e st'=>match e with
  | .normal=>sL f K n st'
  | .exit id=>K (.exit id) st'
  | .ret=>K .ret st'
def cX(P:Program)(n0:Nat):RC→St→(Ex→St→Prop)→Prop
 | .skip,st,K=>K .normal st
 | .reg l kill,st,K=>uM P l st fun st'=>K .normal ⟨clean kill st'.sl,st'.so,st'.nx⟩
 | .dreg b0 n l kill an ms,st,K=>match Nat.ble st.nx b0 with
   |true=>lY P l ms ⟨st.sl,st.so,n⟩ fun recs stF=>lX recs an 0=true∧K .normal ⟨clean kill (look stF.sl (pS stF.sl)),stF.so,stF.nx⟩
   |false=>lY P l (shM st.nx ms) ⟨st.sl,st.so,n+st.nx⟩ fun recs stF=>lX recs an 0=true∧K .normal ⟨clean kill (look stF.sl (pS stF.sl)),stF.so,stF.nx⟩
 | .seq a b,st,K=>cX P n0 a st fun e st'=>match e with
   | .normal=>cX P n0 b st' K
   | .exit id=>K (.exit id) st'
   | .ret=>K .ret st'
 | .regc a b kill,st,K=>∃(α:Type) (I:α→Prop) (F:α→St),(uM P a st fun st'=>∃x,I x∧View n0 st' (F x))∧∀x,I x→uM P b (F x) fun st'=>K .normal ⟨clean kill st'.sl,st'.so,st'.nx⟩
 | .regv a d b kill,st,K=>∃(α:Type) (I:α→Prop) (F:α→St),(uM P a st fun st'=>aY7 st' d fun st''=>∃x,I x∧View n0 st'' (F x))∧∀x,I x→uM P b (F x) fun st'=>K .normal ⟨clean kill st'.sl,st'.so,st'.nx⟩
 | .cut a b,st,K=>∃(α:Type) (I:α→Prop) (F:α→St),(cX P n0 a st fun e st'=>match e with
   | .normal=>∃x,I x∧View n0 st' (F x)
   | .exit id=>K (.exit id) st'
   | .ret=>K .ret st')∧∀x,I x→cX P n0 b (F x) K
 | .cond c a b,st,K=>match bN st.sl [] c with
   | .bool x=>(x=true→cX P n0 a st K)∧(x=false→cX P n0 b st K)
   |_=>False
 | .block id c,st,K=>cX P n0 c st fun e st'=>match e with
   | .exit j=>if j=id then K .normal st' else K (.exit j) st'
   | .normal=>K .normal st'
   | .ret=>K .ret st'
 | .loop c,st,K=>∃(α:Type) (I:α→Prop) (F:α→St) (m:α→Nat),(∃a,I a∧View n0 st (F a))∧∀a,I a→cX P n0 c (F a) fun e st'=>match e with
   | .normal=>∃a',I a'∧View n0 st' (F a')∧m a'<m a
   | .exit id=>K (.exit id) st'
   | .ret=>K .ret st'
 | .uloop c,st,K=>∃n,sL (cX P n0 c) K n st
 | .exit id,st,K=>K (.exit id) st
 | .ret,st,K=>K .ret st
 | .bad,_,_=>False
def dD(P:Program)(N:Nat):Code→Option RC
 | .skip=>some .skip
 | .region _ ops false=>match dI P ops N ops.toList with
   |some l=>if lD [] l=true then some (.reg l []) else none
   |none=>some .bad
 | .region id ops true=>match dI P ops N ops.toList with
   |some l=>if P.follows .mixedOrders=true∧aHL (aX6 (ops.toList.map lZ) []) ops.toList (aX6 (ops.toList.map lZ) []) 0=true then some (.dreg (1024*(id+1)) (1024*(id+1)+16*ops.size) l [] (aX6 (ops.toList.map lZ) []) (gU (1024*(id+1)) ops.size)) else none
   |none=>some .bad
 | .seq a b=>match dD P N a,dD P N b with
   |some a,some b=>some (.seq a b)
   |_,_=>none
 | .cond c a b=>match bF c,dD P N a,dD P N b with
   |some c,some a,some b=>some (.cond c a b)
   |_,_,_=>none
 | .block id c=>(dD P N c).map (.block id)
 | .loop c=>(dD P N c).map .loop
 | .exit id=>some (.exit id)
 | .ret=>some .ret
 |_=>some .bad
def strip:RC→RC
 | .reg l _=>.reg l []
 | .dreg b0 n l _ an ms=>.dreg b0 n l [] an ms
 | .seq a b=>.seq (strip a) (strip b)
 | .cut a b=>.seq (strip a) (strip b)
 | .regc a b _=>.reg (a++b) []
 | .regv a _ b _=>.reg (a++b) []
 | .cond c a b=>.cond c (strip a) (strip b)
 | .block id c=>.block id (strip c)
 | .uloop c=>.loop (strip c)
 | .loop c=>.loop (strip c)
 |c=>c
def tL(sl:aX):Prop:=∀p∈sl,p.2.ch=[]
section
variable {P:Program} {U:Nat→Prop} {N:Nat}
theorem lB [vF] {ops:Array Oper} {Q:Exit→Act→World→Prop} {rest:List Nat} :∀(l:List Oper) (inss:List oD) (k:Nat) (G:List Nat) (σ:Sg) (st:St) (act:Act) (w:World),(∀j,j<l.length→l[j]? =ops[k+j]?)→dI P ops N l=some inss→lD G inss=true→
 cP U N σ st act w→GIn st.sl G→∀ {KF:St→Prop},uM P inss st KF→
 (∀σ' st' act' w',KF st'→cP U N σ' st' act' w'→bL σ st.so w st.nx σ' st'.so w' st'.nx→wpOps P ops Q rest act' w')→wpOps P ops Q (yE k l.length++rest) act w:=by
 intro l
 induction l with
 |nil=>
  intro inss k G σ st act w _ hr _ hrel _ KF hK hQ
  simp only [dI,Option.some.injEq] at hr
  subst hr
  exact hQ σ st act w hK hrel (bL.refl _ _ _ _)
 |cons o r ih=>
  intro inss k G σ st act w hl hr hok hrel hG KF hK hQ
  simp only [dI] at hr
  split at hr
  ·rename_i i g d inss' h1 h2 h3 h4
   obtain rfl:=Option.some.inj hr
   have ho:ops[k]? =some o:=by simpa using(hl 0 (by simp)).symm
   simp only [uM] at hK
   split at hK
   ·rename_i ch gc hgu
    simp only [lD,zC] at hok
    obtain⟨hok1,hok2⟩:=hok
    rw [List.length_cons,List.range'_succ,zW,wpOps_cons]
    unfold wpOp
    simp only [ho]
    obtain⟨G',hGG,hchG,hdG,hok'⟩:∃G',(∀x∈G,x∈G')∧(∀x∈ch,x.1∈G')∧(∀d',d=some d'→d'∉G')∧lD G' inss'=true:=by
     have hd0:∀d',d=some d'→d'∉G:=fun d' hd'=>by
      subst hd'
      simpa using hok1
     cases hg:g with
     |none=>
      subst hg
      simp only [guardOf,Option.some.injEq,Prod.mk.injEq] at hgu
      obtain⟨rfl,rfl⟩:=hgu
      exact⟨G,fun x h=>h,by simp,hd0,hok2⟩
     |some gb=>
      obtain⟨gd,b⟩:=gb
      subst hg
      simp only [zC,bne_iff_ne,ne_eq] at hok2
      refine⟨gd::G,fun x h=>zD _ h,fun x hx=>?_,fun d' hd' hm=>?_,hok2.2⟩
      ·simp only [guardOf] at hgu
       split at hgu
       ·rename_i s hs
        split at hgu
        ·simp only [Option.some.injEq,Prod.mk.injEq] at hgu
         obtain⟨rfl,-⟩:=hgu
         rcases List.mem_cons.1 hx with rfl |hx
         ·simp
         ·exact zD _ (hG gd s (iP hs) x hx)
        ·split at hgu
         ·simp only [Option.some.injEq,Prod.mk.injEq] at hgu
          obtain⟨rfl,-⟩:=hgu
          rcases List.mem_cons.1 hx with rfl |hx
          ·simp
          ·exact zD _ (hG gd s (iP hs) x hx)
         ·cases hgu
        ·cases hgu
       ·cases hgu
      ·rcases List.mem_cons.1 hm with rfl |hm
       ·exact hok2.1 hd'
       ·exact hd0 d' hd' hm
    have hG':GIn st.sl G':=fun d s hm g hg=>hGG _ (hG d s hm g hg)
    have step:=aIM (P:=P) (Q:=Q) hrel (yD _) (fun i _=>hrel.rel.fresh _ (by omega)) h1 h2 h3 hgu hG' hdG hchG (KF:=fun v S n=>uM P inss' ⟨aA1 st.sl d ⟨ch,gc,v⟩,S,n⟩ KF) (next:=fun act' w'=>wpOps P ops Q (yE (k+1) r.length++rest) act' w') hK
     (fun σ' v S' n1 cv w' hk hge hr' g hgin _=>by
      rw [Nat.max_eq_right hge] at hr' g
      exact ih inss' (k+1) G' σ' _ _ w' (fun j hj=>by have :=hl (j+1) (by simpa using hj);simpa [Nat.add_assoc,Nat.add_comm 1 j] using this) h4 hok' hr' hgin hk
       fun σ'' st'' act'' w'' hk' hr'' g'=>hQ σ'' st'' act'' w'' hk' hr'' (g.trans g'))
    split
    ·rename_i hw;rw [if_pos hw] at step;exact .inl step
    ·rename_i hw;rw [if_neg hw] at step;exact step
   ·cases hK
  ·cases hr
theorem vZ [vF] {ops:Array Oper} {Q:Exit→Act→World→Prop} (l:List Oper)(inss:List oD)(k:Nat)(G:List Nat)(σ:Sg)(st:St)(act:Act)(w:World)(hl:∀j,l[j]? =ops[k+j]?)(hr:dI P ops N l=some inss)(hok:lD G inss=true)
 (hrel:cP U N σ st act w) (hG:GIn st.sl G) {KF:St→Prop} (hK:uM P inss st KF)
 (hQ:∀σ' st' act' w',KF st'→cP U N σ' st' act' w'→bL σ st.so w st.nx σ' st'.so w' st'.nx→Q .normal act' w'):wpOps P ops Q (yE k l.length) act w:=by
 have :=lB (rest:= []) l inss k G σ st act w (fun j _=>hl j) hr hok hrel hG hK (Q:=Q) fun σ' st' act' w' h1 h2 h3=>hQ σ' st' act' w' h1 h2 h3
 rwa [List.append_nil] at this
theorem mU {ops:Array Oper} :∀(a:List oD) (l:List Oper) (b:List oD),dI P ops N l=some (a++b)→∃l1 l2,l=l1++l2∧dI P ops N l1=some a∧dI P ops N l2=some b
 | [],l,b,h=>⟨[],l,rfl,rfl,h⟩
 |x::a,[],b,h=>by simp [dI] at h
 |x::a,o::r,b,h=>by
  simp only [dI] at h
  split at h
  ·rename_i i g d l' h1 h2 h3 h4
   simp only [zW,Option.some.injEq,List.cons.injEq] at h
   obtain⟨hx,h⟩:=h
   subst hx
   obtain⟨l1,l2,e,e1,e2⟩:=mU a r b (h▸h4)
   exact⟨o::l1,l2,by rw [e];rfl,by simp only [dI,h1,h2,h3,e1],e2⟩
  ·cases h
theorem tF:∀(b:List oD) (G G':List Nat),(∀x∈G,x∈G')→lD G' b=true→lD G b=true
 | [],_,_,_,_=>rfl
 |i::r,G,G',hG,h=>by
  simp only [lD,zC] at h⊢
  refine⟨?_,?_⟩
  ·have h1:=h.1
   split at h1
   ·rename_i d hd
    simp only [zL,List.contains_eq_mem,decide_eq_false_iff_not] at h1⊢
    exact fun hm=>h1 (hG _ hm)
   ·rfl
  ·have h2:=h.2
   split at h2
   ·simp only [zC] at h2⊢
    exact⟨h2.1,tF r _ _ (fun x hx=>by
     rcases List.mem_cons.1 hx with rfl |hx
     ·exact List.mem_cons_self
     ·exact zD _ (hG x hx)) h2.2⟩
   ·exact tF r _ _ hG h2
theorem mK:∀(a b:List oD) (G:List Nat),lD G (a++b)=true→lD G a=true∧lD [] b=true
 | [],b,G,h=>⟨rfl,tF b [] G (fun x hx=>by cases hx) h⟩
 |i::r,b,G,h=>by
  simp only [zW,lD,zC] at h⊢
  have h2:=h.2
  split at h2
  ·simp only [zC] at h2
   obtain⟨k1,k2⟩:=mK r b _ h2.2
   exact⟨⟨h.1,by simp only [zC];exact⟨h2.1,k1⟩⟩,k2⟩
  ·obtain⟨k1,k2⟩:=mK r b _ h2
   exact⟨⟨h.1,k1⟩,k2⟩
theorem cP.clean [vF] {σ:Sg} {st:St} {act:Act} {w:World} (h:cP U N σ st act w)(kill:List Nat):cP U N σ ⟨Sk.clean kill st.sl,st.so,st.nx⟩ act w:=
 ⟨h.rel,h.sz,h.df,fun d s hm=>h.sl d s (gF hm).1⟩
theorem rF {sl:aX} {S:aC} {ids:List (Option Nat)} :∀ {l:aX},uZ sl S ids l→∀d s,(d,s)∈l→s.ch=[]∧vw2 S ids (bN sl [] (.t d)) s.v
 | [],_,_,_,h=>by simp at h
 | (j,q)::r,hv,d,s,h=>by
   obtain⟨h1,h2,h3⟩:=hv
   rcases List.mem_cons.1 h with h |h
   ·obtain⟨rfl,rfl⟩:=Prod.mk.inj h;exact⟨h1,h2⟩
   ·exact rF h3 d s h
theorem vY [vF] {σ:Sg} {st:St} {act:Act} {w:World} (h:cP U N σ st act w)(d:Nat):VR (Own U σ st.so) w σ (bN st.sl [] (.t d)) (act.tmps.getD d undef):=
 kL (x:=.tmp d) h (ch:= []) (fun g hg=>by cases hg) rfl
theorem View.rel [vF] {n0:Nat} {st st':St} (hv:View n0 st st') {σ:Sg} {act:Act} {w:World} (h:cP U N σ st act w) {σ0:Sg} {O0:Nat→Prop} {w0:World} (hz:∀k,n0≤k→σ0 k=none)(hg:lV O0 σ0 w0 n0 σ st.so w st.nx):
 ∃σ',cP U N σ' st' act w∧tL st'.sl∧lV O0 σ0 w0 n0 σ' st'.so w st'.nx:=by
 obtain⟨ids,obs,h1,h2,h3,h4',h5',h6',h7⟩:=hv
 have h4:=nR h4'
 have h5:∀j,j<n0→ids[j]? =some (some j):=fun j hj=>by have :=mB n0 0 ids h5' j hj;rwa [zI] at this
 have h6:=zN h6'
 refine⟨pU σ ids obs,⟨by rw [h1,h2];exact h.rel.view h3 h4,h.sz,h.df,fun d s hm=>?_⟩,fun p hp=>(rF h7 p.1 p.2 hp).1,⟨hg.keep,fun b hb hO=>?_,fun k hk=>?_,by rw [h2];exact h6⟩⟩
 ·obtain⟨hc,hvw⟩:=rF h7 d s hm
  unfold SVR
  rw [hc,h1]
  exact aMA h.rel h3 hvw (vY h d)
 ·rw [h1] at hO
  obtain⟨j,k,p,es,cap,-,e2,e3⟩:=kD h3 hO
  exact hg.own b hb ⟨k,p,es,cap,e2,e3⟩
 ·rw [←hg.sg k hk]
  simp [pU,h5 k (zV fun hle=>hk (hz k hle))]
theorem dR {c:Code} {rc:RC} (h:dD P N c=some rc):match rc with
 | .skip=>c=.skip
 | .reg l _=>∃id ops,c=.region id ops false∧dI P ops N ops.toList=some l∧lD [] l=true
 | .dreg b0 n l _ an ms=>∃id ops,c=.region id ops true∧dI P ops N ops.toList=some l∧P.follows .mixedOrders=true∧aHL an ops.toList an 0=true∧b0+16*ops.size=n∧ms=gU b0 ops.size
 | .seq a b=>∃x y,c=.seq x y∧dD P N x=some a∧dD P N y=some b
 | .cut _ _=>True
 | .regc _ _ _=>True
 | .regv _ _ _ _=>True
 | .cond cc a b=>∃z x y,c=.cond z x y∧bF z=some cc∧dD P N x=some a∧dD P N y=some b
 | .block id b=>∃x,c=.block id x∧dD P N x=some b
 | .loop b=>∃x,c=.loop x∧dD P N x=some b
 | .uloop _=>True
 | .exit id=>c=.exit id
 | .ret=>c=.ret
 | .bad=>True:=by
 cases c with
 |skip=>simp only [dD,Option.some.injEq] at h;subst h;rfl
 |region id ops draw=>
  cases draw with
  |true=>
   simp only [dD] at h
   split at h
   ·rename_i l hl
    split at h
    ·rename_i hok
     obtain rfl:=Option.some.inj h
     exact⟨id,ops,rfl,hl,hok.1,hok.2,rfl,rfl⟩
    ·cases h
   ·cases h;trivial
  |false=>
   simp only [dD] at h
   split at h
   ·rename_i l hl
    split at h
    ·rename_i hok
     obtain rfl:=Option.some.inj h
     exact⟨id,ops,rfl,hl,hok⟩
    ·cases h
   ·cases h;trivial
 |seq x y=>
  simp only [dD] at h
  split at h
  ·rename_i h1 h2;obtain rfl:=Option.some.inj h;exact⟨x,y,rfl,h1,h2⟩
  ·cases h
 |cond z x y=>
  simp only [dD] at h
  split at h
  ·rename_i h0 h1 h2;obtain rfl:=Option.some.inj h;exact⟨z,x,y,rfl,h0,h1,h2⟩
  ·cases h
 |block id x=>
  simp only [dD,zX] at h
  obtain⟨b,h1,rfl⟩:=h
  exact⟨x,rfl,h1⟩
 |loop x=>
  simp only [dD,zX] at h
  obtain⟨b,h1,rfl⟩:=h
  exact⟨x,rfl,h1⟩
 |exit id=>simp only [dD,Option.some.injEq] at h;subst h;rfl
 |ret=>simp only [dD,Option.some.injEq] at h;subst h;rfl
 |_=>simp only [dD,Option.some.injEq] at h;subst h;trivial
theorem aQB [vF] {σ:Sg} {st:St} {act:Act} {w:World} (h:cP U N σ st act w) {d:Nat} {K:St→Prop} (hK:aY7 st d K):∃st',K st'∧cP U N σ st' act w∧st'.so=st.so∧st'.nx=st.nx:=by
 unfold aY7 at hK
 split at hK
 ·rename_i gc k off len hg
  split at hK
  case h_2=>exact hK.elim
  rename_i es0 xs0 hso
  have hob:=h.rel.obj k _ hso
  have hv:=h.sl d _ (iP hg)
  unfold SVR at hv
  simp only at hv
  have key:∃c,len≤c∧c≤9223372036854775807∧VR (Own U σ st.so) w σ (.slk k off len c) (act.tmps.getD d undef):=by
   generalize act.tmps.getD d undef=v at hv
   cases hv with
   | @sl _ _ _ _ b es cap a hs hle ha=>
     rw [hs] at hob
     obtain⟨-,-,hcap,-⟩:=hob
     exact⟨cap-off,by omega,by omega,.slk hs hle ha rfl⟩
   |sl0 hs=>exact⟨0,yD _,by omega,.slk0 hs⟩
  obtain⟨c,hc,hc2,hv'⟩:=key
  refine⟨_,hK c hc hc2,⟨h.rel,h.sz,h.df,fun t q hq=>?_⟩,rfl,rfl⟩
  rcases uH hq with hq | ⟨-,hm⟩
  ·obtain⟨rfl,rfl⟩:=Prod.mk.inj hq
   exact hv'
  ·exact h.sl t q hm
 ·exact hK.elim
theorem oL [vF] {n0:Nat} {σ0:Sg} {O0:Nat→Prop} {w0:World} (hz:∀k,n0≤k→σ0 k=none):∀(rc:RC) (c:Code) (st:St) (K:Ex→St→Prop) (σ:Sg) (act:Act) (w:World) (Q:Exit→Act→World→Prop),dD P N c=some (strip rc)→
 cP U N σ st act w→tL st.sl→lV O0 σ0 w0 n0 σ st.so w st.nx→cX P n0 rc st K→
 (∀e st' σ' act' w',K e st'→cP U N σ' st' act' w'→tL st'.sl→lV O0 σ0 w0 n0 σ' st'.so w' st'.nx→Q (bEK e) act' w')→c.wp P Q act w:=by
 intro rc
 induction rc with
 |skip=>
  intro c st K σ act w Q hres hrel hcl hg hK hQ
  have h1:=dR hres
  simp only [strip] at h1
  subst h1
  exact wp_skip (hQ .normal st σ act w hK hrel hcl hg)
 |reg l kill=>
  intro c st K σ act w Q hres hrel hcl hg hK hQ
  obtain⟨id,ops,rfl,hl,hok⟩:=dR hres
  refine wp_region ?_
  simp only [cX] at hK
  rw [zO,←zH]
  exact vZ ops.toList l 0 [] σ st act w (by simp) hl hok hrel (fun d s hm g hg=>by rw [hcl _ hm] at hg;cases hg) hK fun σ' st' act' w' hk hr' g=>
   hQ .normal _ σ' act' w' hk (hr'.clean kill) (fun p hp=>(gF hp).2) (hg.trans g)
 |dreg b0 n l kill an ms=>
  intro c st K σ act w Q hres hrel hcl hg hK hQ
  obtain⟨id,ops,rfl,hl,hm,han,hn,rfl⟩:=dR hres
  simp only [cX] at hK
  split at hK
  ·rename_i hb
   exact aAF hm hl han hn hrel hcl (zN hb) (K:=fun st'=>K .normal ⟨clean kill st'.sl,st'.so,st'.nx⟩) hK fun σ' st' act' w' hk hr' g=>
    hQ .normal _ σ' act' w' hk (hr'.clean kill) (fun p hp=>(gF hp).2) (hg.trans g)
  ·rw [aFJ] at hK
   exact aAF (b0:=b0+st.nx) hm hl han (by omega) hrel hcl (Nat.le_add_left _ _) (K:=fun st'=>K .normal ⟨clean kill st'.sl,st'.so,st'.nx⟩) hK fun σ' st' act' w' hk hr' g=>
    hQ .normal _ σ' act' w' hk (hr'.clean kill) (fun p hp=>(gF hp).2) (hg.trans g)
 |seq a b iha ihb=>
  intro c st K σ act w Q hres hrel hcl hg hK hQ
  obtain⟨x,y,rfl,h1,h2⟩:=dR hres
  refine wp_seq (iha x st _ σ act w _ h1 hrel hcl hg hK fun e st' σ' act' w' hk hr' hc' g'=>?_)
  cases e with
  |normal=>exact ihb y st' K σ' act' w' Q h2 hr' hc' g' hk hQ
  |exit id=>exact hQ _ _ _ _ _ hk hr' hc' g'
  |ret=>exact hQ _ _ _ _ _ hk hr' hc' g'
 |regc a b kill=>
  intro c st K σ act w Q hres hrel hcl hg hK hQ
  obtain⟨id,ops,rfl,hl,hok⟩:=dR (rc:=.reg (a++b) []) hres
  obtain⟨α,I,F,hA,hB⟩:=hK
  refine wp_region ?_
  obtain⟨l1,l2,e,e1,e2⟩:=mU a _ b hl
  obtain⟨ok1,ok2⟩:=mK a b _ hok
  rw [zO,←zH,e,yB,←zZ,zI]
  have hget:∀j:Nat,(l1++l2)[j]? =ops[j]? :=fun j=>by rw [←e];simp
  have h1:l1.length≤ops.toList.length:=by rw [e];simp
  refine lB (P:=P) l1 a 0 [] σ st act w (fun j hj=>by rw [zI,←hget,zT hj]) e1 ok1 hrel (fun d s hm g hg=>by rw [hcl _ hm] at hg;cases hg) hA fun σ' st' act' w' hk hr' g=>?_
  ·obtain⟨u,hu,hv⟩:=hk
   obtain⟨σ2,r2,c2,g2⟩:=hv.rel hr' hz (hg.trans g)
   exact vZ l2 b l1.length [] σ2 (F u) act' w' (fun j=>by rw [←hget,zQ (by omega)];simp) e2 ok2 r2 (fun d s hm g hg=>by rw [c2 _ hm] at hg;cases hg) (hB u hu) fun σ3 st3 act3 w3 hk3 hr3 g3=>
    hQ .normal _ σ3 act3 w3 hk3 (hr3.clean kill) (fun p hp=>(gF hp).2) (g2.trans g3)
 |regv a d b kill=>
  intro c st K σ act w Q hres hrel hcl hg hK hQ
  obtain⟨id,ops,rfl,hl,hok⟩:=dR (rc:=.reg (a++b) []) hres
  obtain⟨α,I,F,hA,hB⟩:=hK
  refine wp_region ?_
  obtain⟨l1,l2,e,e1,e2⟩:=mU a _ b hl
  obtain⟨ok1,ok2⟩:=mK a b _ hok
  rw [zO,←zH,e,yB,←zZ,zI]
  have hget:∀j:Nat,(l1++l2)[j]? =ops[j]? :=fun j=>by rw [←e];simp
  have h1:l1.length≤ops.toList.length:=by rw [e];simp
  refine lB (P:=P) l1 a 0 [] σ st act w (fun j hj=>by rw [zI,←hget,zT hj]) e1 ok1 hrel (fun d s hm g hg=>by rw [hcl _ hm] at hg;cases hg) hA fun σ' st' act' w' hk hr' g=>?_
  ·obtain⟨st2,hk2,hr2,es,en⟩:=aQB hr' hk
   obtain⟨u,hu,hv⟩:=hk2
   obtain⟨σ2,r2,c2,g2⟩:=hv.rel hr2 hz (by rw [es,en];exact hg.trans g)
   exact vZ l2 b l1.length [] σ2 (F u) act' w' (fun j=>by rw [←hget,zQ (by omega)];simp) e2 ok2 r2 (fun d s hm g hg=>by rw [c2 _ hm] at hg;cases hg) (hB u hu) fun σ3 st3 act3 w3 hk3 hr3 g3=>
    hQ .normal _ σ3 act3 w3 hk3 (hr3.clean kill) (fun p hp=>(gF hp).2) (g2.trans g3)
 |cut a b iha ihb=>
  intro c st K σ act w Q hres hrel hcl hg hK hQ
  obtain⟨x,y,rfl,h1,h2⟩:=dR (rc:=.seq (strip a) (strip b)) hres
  obtain⟨α,I,F,hA,hB⟩:=hK
  refine wp_seq (iha x st _ σ act w _ h1 hrel hcl hg hA fun e st' σ' act' w' hk hr' hc' g'=>?_)
  cases e with
  |normal=>
   obtain⟨u,hu,hv⟩:=hk
   obtain⟨σ2,r2,c2,g2⟩:=hv.rel hr' hz g'
   exact ihb y (F u) K σ2 act' w' Q h2 r2 c2 g2 (hB u hu) hQ
  |exit id=>exact hQ _ _ _ _ _ hk hr' hc' g'
  |ret=>exact hQ _ _ _ _ _ hk hr' hc' g'
 |cond cc a b iha ihb=>
  intro c st K σ act w Q hres hrel hcl hg hK hQ
  obtain⟨cx,x,y,rfl,h0,h1,h2⟩:=dR hres
  simp only [cX] at hK
  split at hK
  ·rename_i t ht
   have hv:=kL hrel (ch:= []) (fun g hg=>by cases hg) h0
   rw [ht] at hv
   generalize he:act.eval cx=v at hv
   cases hv
   exact wp_cond_split he (fun h=>iha x st K σ act w Q h1 hrel hcl hg (hK.1 h) hQ) (fun h=>ihb y st K σ act w Q h2 hrel hcl hg (hK.2 h) hQ)
  ·cases hK
 |block id b ih=>
  intro c st K σ act w Q hres hrel hcl hg hK hQ
  obtain⟨x,rfl,h1⟩:=dR hres
  refine wp_block (ih x st _ σ act w _ h1 hrel hcl hg hK fun e st' σ' act' w' hk hr' hc' g'=>?_)
  cases e with
  |normal=>exact hQ _ _ _ _ _ hk hr' hc' g'
  |ret=>exact hQ _ _ _ _ _ hk hr' hc' g'
  |exit j=>
   simp only [bEK,Exit.inBlock]
   simp only at hk
   split
   ·rename_i h;rw [if_pos h] at hk;exact hQ .normal _ _ _ _ hk hr' hc' g'
   ·rename_i h;rw [if_neg h] at hk;exact hQ (.exit j) _ _ _ _ hk hr' hc' g'
 |loop b ih=>
  intro c st K σ act w Q hres hrel hcl hg hK hQ
  obtain⟨x,rfl,h1⟩:=dR hres
  obtain⟨α,I,F,m,⟨a,ha,hv⟩,hround⟩:=hK
  obtain⟨σ1,r1,c1,g1⟩:=hv.rel hrel hz hg
  refine wp_loop_ghost (fun n act w=>∃a σ,m a=n∧I a∧cP U N σ (F a) act w∧tL (F a).sl∧lV O0 σ0 w0 n0 σ (F a).so w (F a).nx) (m a) ⟨a,σ1,rfl,ha,r1,c1,g1⟩ ?_
  rintro n act w ⟨a,σ,rfl,ha,r,cl,g⟩
  refine ih x (F a) _ σ act w _ h1 r cl g (hround a ha) fun e st' σ' act' w' hk hr' hc' g'=>?_
  cases e with
  |normal=>
   obtain⟨a',ha',hv',hlt⟩:=hk
   obtain⟨σ2,r2,c2,g2⟩:=hv'.rel hr' hz g'
   exact⟨m a',hlt,a',σ2,rfl,ha',r2,c2,g2⟩
  |exit id=>exact hQ _ _ _ _ _ hk hr' hc' g'
  |ret=>exact hQ _ _ _ _ _ hk hr' hc' g'
 |uloop b ih=>
  intro c st K σ act w Q hres hrel hcl hg hK hQ
  obtain⟨x,rfl,h1⟩:=dR (rc:=.loop (strip b)) hres
  obtain⟨k,hk⟩:=hK
  refine wp_loop_ghost (fun n act w=>∃st σ,sL (cX P n0 b) K n st∧cP U N σ st act w∧tL st.sl∧lV O0 σ0 w0 n0 σ st.so w st.nx) k ⟨st,σ,hk,hrel,hcl,hg⟩ ?_
  rintro n act w ⟨st,σ,hk,r,cl,g⟩
  cases n with
  |zero=>exact hk.elim
  |succ n=>
   refine ih x st _ σ act w _ h1 r cl g hk fun e st' σ' act' w' hk hr' hc' g'=>?_
   cases e with
   |normal=>exact⟨n,Nat.lt_succ_self n,st',σ',hk,hr',hc',g'⟩
   |exit id=>exact hQ _ _ _ _ _ hk hr' hc' g'
   |ret=>exact hQ _ _ _ _ _ hk hr' hc' g'
 |bad=>intro c st K σ act w Q hres hrel hcl hg hK hQ;exact hK.elim
 |exit id=>
  intro c st K σ act w Q hres hrel hcl hg hK hQ
  have h1:=dR hres
  simp only [strip] at h1
  subst h1
  exact wp_exit (hQ (.exit id) st σ act w hK hrel hcl hg)
 |ret=>
  intro c st K σ act w Q hres hrel hcl hg hK hQ
  have h1:=dR hres
  simp only [strip] at h1
  subst h1
  exact wp_ret (hQ .ret st σ act w hK hrel hcl hg)
inductive RV where
 |tmp (t:Nat)
 |cell (t:Nat) (agg:Bool) (n:Nat)
def iU(P:Program):ResultVar→Option RV
 | .tmp t=>some (.tmp t)
 | .cell a t=>match cH P t,bB P t with
   |some agg,some n=>if agg=true∨n=1 then some (.cell a agg n) else none
   |_,_=>none
def rvK(st:St):RV→(V→Prop)→Prop
 | .tmp t,K=>K (bN st.sl [] (.t t))
 | .cell t agg n,K=>fB st.so (.ld agg n (.t t)) (bN st.sl []) true K
def aE9(st:St):List RV→(List V→Prop)→Prop
 | [],K=>K []
 |r::rs,K=>rvK st r fun v=>aE9 st rs fun vs=>K (v::vs)
def aLH:List V→V
 | [v]=>v
 |vs=>.tup vs
def aKC(n0:Nat)(rvs:List RV)(res:V)(ob1:List Obj)(st:St):Prop:=
 aE9 st rvs fun vs=>∃ids,mN st.so ids ids ob1∧oW ids=true∧mA 0 n0 ids∧Nat.ble n0 ob1.length=true∧vw3 st.so ids (aLH vs) res
def eL:Nat→List V→aX
 |_,[]=> []
 |k,v::r=>(k,⟨[],true,v⟩)::eL (k+1) r
theorem gX:∀ {vs:List V} {k:Nat} {p:Nat×SV},p∈eL k vs→∃i v,vs[i]? =some v∧p=(k+i,⟨[],true,v⟩)
 | [],_,_,h=>by simp [eL] at h
 |v::r,k,p,h=>by
  simp only [eL,List.mem_cons] at h
  rcases h with rfl |h
  ·exact⟨0,v,rfl,rfl⟩
  ·obtain⟨i,u,h1,rfl⟩:=gX h
   exact⟨i+1,u,h1,by rw [Nat.add_assoc,Nat.add_comm 1 i]⟩
def fO(P:Program)(n0:Nat)(rvs:List RV)(res:V)(ob1:List Obj):Ex→St→Prop
 | .normal,st=>aKC n0 rvs res ob1 st
 | .ret,st=>aKC n0 rvs res ob1 st
 | .exit _,_=>False
def aAX(tmps:Array Value):ResultVar→Sem Value
 | .tmp t=>pure (tmps.getD t undef)
 | .cell a t=>do loadVar t (←asAddr (tmps.getD a undef))
theorem aUL [vF] {σ:Sg} {st:St} {act:Act} {w:World} (h:cP U N σ st act w) {x:ResultVar} {r:RV} (hr:iU P x=some r) {K:V→Prop} (hK:rvK st r K):
 ∃v cv,K v∧VR (Own U σ st.so) w σ v cv∧(aAX act.tmps x).run P w=.ok cv w:=by
 cases x with
 |tmp t=>
  simp only [iU,Option.some.injEq] at hr
  subst hr
  exact⟨_,_,hK,vY h t,rfl⟩
 |cell a t=>
  simp only [iU] at hr
  split at hr
  ·rename_i agg n h1 h2
   split at hr
   ·rename_i h3
    obtain rfl:=Option.some.inj hr
    obtain⟨v,cv,hk,hv,hrun⟩:=aO5 (P:=P) (ρ:=act.eval) (t:=t) (a:=.tmp a) (x:=.t a) h1 h2 h3 h.rel (vY h a) hK
    refine⟨v,cv,hk,hv,?_⟩
    have :=hrun w { (default:Oper) with op:=.load t (.tmp a) } rfl (sA.refl w)
    simp only [execOp,Instr.loadAt,Act.eval] at this
    generalize hp:act.tmps.getD a undef=pv at this
    cases pv <;> try(simp [Instr.sureAddr] at this;done)
    rename_i ad
    cases ad with
    |none=>simp [Instr.sureAddr] at this
    |some ad=>
     simp only [Instr.sureAddr,pure_bind,Sem.run_bind,Sem.run_pure,Result.andThen_ok] at this
     have hg:aAX act.tmps (.cell a t)=loadVar t ad:=by unfold aAX;simp only [hp];rfl
     show(aAX act.tmps (.cell a t)).run P w=.ok cv w
     rw [hg]
     cases hl:(loadVar t ad).run P w with
     |ok x w'=>rw [hl] at this;simp only [Result.andThen_ok,Result.ok.injEq,Next.value.injEq] at this;obtain⟨rfl,rfl⟩:=this;rfl
     |halt x w'=>rw [hl] at this;simp at this
   ·cases hr
  ·cases hr
theorem rV [vF] {σ:Sg} {st:St} {act:Act} {w:World} (h:cP U N σ st act w):∀(xs:List ResultVar) (rs:List RV) (_:xs.mapM (iU P)=some rs) (K:List V→Prop),aE9 st rs K→
 ∃vs cvs,K vs∧vs.length=cvs.length∧(∀(i:Nat) v cv,vs[i]? =some v→cvs[i]? =some cv→VR (Own U σ st.so) w σ v cv)∧
  (xs.mapM (aAX act.tmps)).run P w=.ok cvs w
 | [],rs,hr,K,hK=>by
   rw [List.mapM_nil] at hr
   obtain rfl:=Option.some.inj hr
   exact⟨[],[],hK,rfl,by simp,rfl⟩
 |x::xs,rs,hr,K,hK=>by
  rw [List.mapM_cons] at hr
  cases h1:iU P x with
  |none=>rw [h1] at hr;cases hr
  |some r=>
   rw [h1] at hr
   cases h2:xs.mapM (iU P) with
   |none=>rw [h2] at hr;cases hr
   |some rs'=>
    rw [h2] at hr
    obtain rfl:=Option.some.inj hr
    obtain⟨v,cv,hk,hv,hrun⟩:=aUL h h1 hK
    obtain⟨vs,cvs,hk',hl,hvs,hruns⟩:=rV h xs rs' h2 _ hk
    refine⟨v::vs,cv::cvs,hk',by simp [hl],fun i u c hu hc=>?_,?_⟩
    ·cases i with
     |zero=>simp only [zF,Option.some.injEq] at hu hc;subst hu hc;exact hv
     |succ i=>exact hvs i u c (by simpa using hu) (by simpa using hc)
    ·rw [List.mapM_cons]
     simp only [Sem.run_bind,hrun,Result.andThen_ok,hruns,Sem.run_pure]
theorem aZ1 {f:FuncId} {fn:Func} {rc:RC} {rvs:List RV} {ob0 ob1:List Obj} {args:List V} {res:V} (hf:P.funcs[f]? =some fn)(hb0:fn.body.isSome=true)(hres0:dD P fn.ntmps (fn.body.getD .skip)=some (strip rc))
 (hrv:fn.results.toList.mapM (iU P)=some rvs) (hn:args.length≤fn.ntmps)
 (hK:cX P ob0.length rc ⟨eL 0 args,aL 0 ob0,ob0.length⟩ (fO P ob0.length rvs res ob1)):aQ P f ob0 args res ob1:=by
 letI:vF:=⟨[]⟩
 intro U σ w cargs hR hl ha
 obtain⟨c,hb⟩:=Option.isSome_iff_exists.1 hb0
 have hres:dD P fn.ntmps c=some (strip rc):=by rw [hb] at hres0;exact hres0
 refine calls_of_wp hf hb ?_
 have hrel:cP U fn.ntmps σ ⟨eL 0 args,aL 0 ob0,ob0.length⟩ { tmps:=cargs++zJ (fn.ntmps-cargs.size) undef,defers:= [] } w:=by
  refine⟨hR,by simp;omega,rfl,fun d s hm=>?_⟩
  obtain⟨i,v,hv,he⟩:=gX hm
  obtain⟨rfl,rfl⟩:=Prod.mk.inj he
  obtain⟨hi,-⟩:=List.getElem?_eq_some_iff.1 hv
  have hc:=zE (xs:=cargs) (i:=i) (by omega)
  unfold SVR
  simp only [zI]
  have :(cargs++zJ (fn.ntmps-cargs.size) undef).getD i undef=cargs[i]:=by
   rw [zA,zR (by omega),hc];rfl
  rw [this]
  exact ha i v _ hv hc
 refine oL (fun k hk=>(hR.fresh k hk).2) rc c _ _ σ _ w _ hres hrel (fun p hp=>by obtain⟨i,v,-,rfl⟩:=gX hp;rfl) (bL.refl _ _ _ _).toB hK fun e st' σ' act' w' hk hr' hc' g'=>?_
 have fin:aKC ob0.length rvs res ob1 st'→act'.defers=[]∧∃v,(results fn act'.tmps).run P w'=.ok v w'∧(∃cv σ'',Ending.returned v=.returned cv∧aS U σ'' (aL 0 ob1) w' ob1.length∧VR (Own U σ'' (aL 0 ob1)) w' σ'' res cv∧bL σ (aL 0 ob0) w ob0.length σ'' (aL 0 ob1) w' ob1.length):=by
  intro hfin
  obtain⟨vs,cvs,⟨ids,q1,q2',q3',q4',q5⟩,hlen,hvs,hrun⟩:=rV hr' _ rvs hrv _ hfin
  have q2:=nR q2'
  have q3:∀j,j<ob0.length→ids[j]? =some (some j):=fun j hj=>by have :=mB _ 0 ids q3' j hj;rwa [zI] at this
  have q4:=zN q4'
  refine⟨hr'.df,(if h:cvs.toArray.size=1 then cvs.toArray[0] else .tuple cvs.toArray),?_,_,pU σ' ids ob1,rfl,hr'.rel.view q1 q2,?_,⟨g'.keep,fun b hb hO=>?_,fun k hk=>?_,q4⟩⟩
  ·have he:results fn act'.tmps=(do let vs←fn.results.mapM (aAX act'.tmps);pure (if h:vs.size=1 then vs[0] else .tuple vs)):=by
    unfold results
    congr 1
   rw [he,Sem.run_bind,zU]
   simp only [Sem.run_map,hrun,Result.andThen_ok,Sem.run_pure]
  ·refine aMB hr'.rel q1 q5 ?_
   match vs,cvs,hlen,hvs with
   | [v],[cv],_,hvs=>exact hvs 0 v cv rfl rfl
   | [],[],_,_=>exact .tup rfl (by simp)
   |v1::v2::vs,c1::c2::cvs,hlen,hvs=>
    have :¬((c1::c2::cvs).toArray.size=1):=by simp
    rw [dif_neg this]
    exact .tup (by simpa using hlen.symm) fun i v c hv hc=>hvs i v c hv (by simpa using hc)
  ·obtain⟨j,k,p,es,cap,-,e2,e3⟩:=kD q1 hO
   exact g'.own b hb ⟨k,p,es,cap,e2,e3⟩
  ·rw [←g'.sg k hk]
   simp [pU,q3 k (zV fun hle=>hk ((hR.fresh k hle).2))]
 cases e with
 |normal=>exact fin hk
 |ret=>exact fin hk
 |exit id=>exact hk.elim
theorem aS1 {f:FuncId} {fn:Func} {rc:RC} {rvs:List RV} {ob0 ob1:List Obj} {args:List V} {res:V} (hf:P.funcs[f]? =some fn)(hb0:fn.body.isSome=true)(hres0:dD P fn.ntmps (fn.body.getD .skip)=some (strip rc))
 (hrv:fn.results.toList.mapM (iU P)=some rvs) (hn:args.length≤fn.ntmps)
 (hK:cX P 0 rc ⟨eL 0 args,aL 0 ob0,ob0.length⟩ (fO P 0 rvs res ob1)):FnM P f ob0 args res ob1:=by
 letI:vF:=⟨[]⟩
 intro U σ w cargs hR hl ha
 obtain⟨c,hb⟩:=Option.isSome_iff_exists.1 hb0
 have hres:dD P fn.ntmps c=some (strip rc):=by rw [hb] at hres0;exact hres0
 refine calls_of_wp hf hb ?_
 have hrel:cP U fn.ntmps σ ⟨eL 0 args,aL 0 ob0,ob0.length⟩ { tmps:=cargs++zJ (fn.ntmps-cargs.size) undef,defers:= [] } w:=by
  refine⟨hR,by simp;omega,rfl,fun d s hm=>?_⟩
  obtain⟨i,v,hv,he⟩:=gX hm
  obtain⟨rfl,rfl⟩:=Prod.mk.inj he
  obtain⟨hi,-⟩:=List.getElem?_eq_some_iff.1 hv
  have hc:=zE (xs:=cargs) (i:=i) (by omega)
  unfold SVR
  simp only [zI]
  have :(cargs++zJ (fn.ntmps-cargs.size) undef).getD i undef=cargs[i]:=by
   rw [zA,zR (by omega),hc];rfl
  rw [this]
  exact ha i v _ hv hc
 refine oL (n0:=0) (σ0:=fun _=>none) (O0:=gB σ (aL 0 ob0)) (w0:=w) (fun k hk=>rfl) rc c _ _ σ _ w _ hres hrel (fun p hp=>by obtain⟨i,v,-,rfl⟩:=gX hp;rfl)
  ⟨cM.refl _ _,fun _ _ h=>h,fun k hk=>absurd rfl hk,Nat.zero_le _⟩ hK fun e st' σ' act' w' hk hr' hc' g'=>?_
 have fin:aKC 0 rvs res ob1 st'→act'.defers=[]∧∃v,(results fn act'.tmps).run P w'=.ok v w'∧(∃cv σ'',Ending.returned v=.returned cv∧aS U σ'' (aL 0 ob1) w' ob1.length∧VR (Own U σ'' (aL 0 ob1)) w' σ'' res cv∧lV (gB σ (aL 0 ob0)) (fun _=>none) w 0 σ'' (aL 0 ob1) w' ob1.length):=by
  intro hfin
  obtain⟨vs,cvs,⟨ids,q1,q2',q3',q4',q5⟩,hlen,hvs,hrun⟩:=rV hr' _ rvs hrv _ hfin
  have q2:=nR q2'
  refine⟨hr'.df,(if h:cvs.toArray.size=1 then cvs.toArray[0] else .tuple cvs.toArray),?_,_,pU σ' ids ob1,rfl,hr'.rel.view q1 q2,?_,⟨g'.keep,fun b hb hO=>?_,fun k hk=>absurd rfl hk,Nat.zero_le _⟩⟩
  ·have he:results fn act'.tmps=(do let vs←fn.results.mapM (aAX act'.tmps);pure (if h:vs.size=1 then vs[0] else .tuple vs)):=by
    unfold results
    congr 1
   rw [he,Sem.run_bind,zU]
   simp only [Sem.run_map,hrun,Result.andThen_ok,Sem.run_pure]
  ·refine aMB hr'.rel q1 q5 ?_
   match vs,cvs,hlen,hvs with
   | [v],[cv],_,hvs=>exact hvs 0 v cv rfl rfl
   | [],[],_,_=>exact .tup rfl (by simp)
   |v1::v2::vs,c1::c2::cvs,hlen,hvs=>
    have :¬((c1::c2::cvs).toArray.size=1):=by simp
    rw [dif_neg this]
    exact .tup (by simpa using hlen.symm) fun i v c hv hc=>hvs i v c hv (by simpa using hc)
  ·obtain⟨j,k,p,es,cap,-,e2,e3⟩:=kD q1 hO
   exact g'.own b hb ⟨k,p,es,cap,e2,e3⟩
 cases e with
 |normal=>exact fin hk
 |ret=>exact fin hk
 |exit id=>exact hk.elim
end
end Go.Sk
namespace Go.Sk
open Go Go.RowKit
variable [fQ]
def rq(b:Bool)(K:Prop):Prop:=
 match b with
 |true=>K
 |false=>False
def gq(gc b:Bool)(K:Prop):Prop:=
 match gc with
 |true=>rq b K
 |false=>K
def gr(gc b:Bool)(K:Prop):Prop:=
 match b with
 |true=>K
 |false=>match gc with
  |true=>False
  |false=>K
theorem bBR {gc b:Bool} {K:Prop} :gr gc b K=((gc=true→b=true)∧K):=by
 cases gc <;> cases b <;> simp [gr]
theorem eW {b:Bool} {K:Prop} :rq b K=(b=true∧K):=by
 cases b <;> simp [rq]
theorem aL5 {gc b:Bool} {K:Prop} :gq gc b K=((gc=true→b=true)∧K):=by
 cases gc <;> simp [gq,eW]
def aP2(n bytes:Nat):Bool:=Nat.ble n 9223372036854775807&&Nat.ble (n*bytes) 140737488355328
theorem aMO {n bytes:Nat} :(aP2 n bytes=true)=((n:Int)≤9223372036854775807∧n*bytes≤140737488355328):=by
 unfold aP2
 rw [zC,zS,zS]
 exact propext ⟨fun h=>⟨by omega,h.2⟩,fun h=>⟨by omega,h.2⟩⟩
def mkB(bytes:Nat)(c:Int):Bool:=Nat.ble (bytes*c.toNat) 281474976710656&&Nat.ble c.toNat 9223372036854775807
theorem aLE {bytes:Nat} {c:Int} (hc:0≤c):(mkB bytes c=true)=((bytes:Int)*c≤281474976710656∧c≤9223372036854775807):=by
 unfold mkB
 rw [zC,zS,zS]
 obtain⟨k,rfl⟩:=Int.eq_ofNat_of_zero_le hc
 rw [Int.toNat_natCast]
 have e:(bytes:Int)*(k:Int)=((bytes*k:Nat):Int):=by simp
 rw [e]
 exact propext ⟨fun h=>⟨by omega,by omega⟩,fun h=>⟨by omega,by omega⟩⟩
theorem aOF {C K:Prop} [Decidable C]:rq (decide C) K=(C∧K):=by rw [eW,decide_eq_true_iff]
theorem aLZ {b:Bool} {K:Prop} :rq (!b) K=(b=false∧K):=by rw [eW,zL]
theorem aZ5 {gc:Bool} {C K:Prop} [Decidable C]:gq gc (decide C) K=((gc=true→C)∧K):=by
 cases gc <;> simp [gq,aOF]
theorem aE {C K:Prop} [Decidable C](h:C)(k:K):rq (decide C) K:=by rw [aOF];exact⟨h,k⟩
theorem bZ {n bytes:Nat} {K:Prop} (h1:(n:Int)≤9223372036854775807)(h2:n*bytes≤140737488355328)(k:K):rq (aP2 n bytes) K:=by rw [eW,aMO];exact⟨⟨h1,h2⟩,k⟩
theorem mk_eq {bytes:Nat} {l c:Int} {K:Prop} :rq (decide (0≤l∧l≤c)) (rq (mkB bytes c) K)=(0≤l∧l≤c∧(bytes:Int)*c≤281474976710656∧c≤9223372036854775807∧K):=by
 rw [aOF,eW]
 refine propext ⟨fun h=>?_,fun h=>?_⟩
 ·have h2:=h.2.1;rw [aLE (by omega)] at h2;exact⟨h.1.1,h.1.2,h2.1,h2.2,h.2.2⟩
 ·refine⟨⟨h.1,h.2.1⟩,?_,h.2.2.2.2⟩;rw [aLE (by omega)];exact⟨h.2.2.1,h.2.2.2.1⟩
theorem aFH {bytes:Nat} {l c:Int} {K:Prop} (h1:0≤l)(h2:l≤c)(h3:(bytes:Int)*c≤281474976710656)(h4:c≤9223372036854775807)(k:K):rq (decide (0≤l∧l≤c)) (rq (mkB bytes c) K):=by rw [mk_eq];exact⟨h1,h2,h3,h4,k⟩
theorem aM {gc:Bool} {C K:Prop} [Decidable C](h:gc=true→C)(k:K):gq gc (decide C) K:=by rw [aZ5];exact⟨h,k⟩
def bB5(op:BinOp)(k:IntKind)(a b:Int)(gc:Bool)(K:V→Prop):Prop:=
 match op with
 | .add=>K (.int k (k.wrap (a+b)))
 | .sub=>K (.int k (k.wrap (a-b)))
 | .mul=>K (.int k (k.wrap (a*b)))
 | .quo=>gq gc (decide (b≠0)) (K (.int k (k.wrap (a.tdiv b))))
 | .rem=>gq gc (decide (b≠0)) (K (.int k (a.tmod b)))
 | .eql=>K (.bool (a==b))
 | .neq=>K (.bool (a != b))
 | .lss=>K (.bool (decide (a<b)))
 | .leq=>K (.bool (decide (a≤b)))
 | .gtr=>K (.bool (decide (b<a)))
 | .geq=>K (.bool (decide (b≤a)))
 | .and=>K (.int k (fN .and k a b))
 | .or=>K (.int k (fN .or k a b))
 | .xor=>K (.int k (fN .xor k a b))
 | .andNot=>K (.int k (fN .andNot k a b))
 | .shl=>gq gc (decide (0≤b)) (K (.int k (k.wrap (a*2^min b.toNat k.bits))))
 | .shr=>gq gc (decide (0≤b)) (K (.int k (a.fdiv (2^min b.toNat k.bits))))
theorem aVW(op:BinOp)(k:IntKind)(a b:Int)(gc:Bool)(K:V→Prop):bB5 op k a b gc K=aB8 op k a b gc K:=by
 cases op <;> simp only [bB5,aB8,aZ5]
def aI5:List (Nat×Kd)→List V→List V→Bool→(Bool→Prop)→Prop
 | [],_,_,acc,K=>K acc
 | (o,.i)::r,xs,ys,acc,K=>match xs[o]?,ys[o]? with
   |some (.int k a),some (.int k' b)=>rq (decide (k=k')) (aI5 r xs ys (acc&&(a==b)) K)
   |_,_=>False
 | (o,.b)::r,xs,ys,acc,K=>match xs[o]?,ys[o]? with
   |some (.bool a),some (.bool b)=>aI5 r xs ys (acc&&(a==b)) K
   |_,_=>False
 | (o,.s)::r,xs,ys,acc,K=>match xs[o]?,ys[o]? with
   |some (.str a),some (.str b)=>aI5 r xs ys (acc&&lJ a b) K
   |_,_=>False
theorem aBL(K:Bool→Prop)(xs ys:List V):∀(offs:List (Nat×Kd)) (acc:Bool),aI5 offs xs ys acc K=fU offs xs ys acc K
 | [],_=>rfl
 | (o,.i)::r,acc=>by
   simp only [aI5,fU,aOF]
   simp only [aBL K xs ys r]
   rfl
 | (o,.b)::r,acc=>by
   simp only [aI5,fU,aBL K xs ys r]
   rfl
 | (o,.s)::r,acc=>by
   simp only [aI5,fU,aBL K xs ys r]
   rfl
def rdF(S:aC)(i:I)(e:A→V)(gc:Bool)(K:V→Prop):Prop:=
 match i with
 | .mv x=>K (e x)
 | .un .not x=>match e x with | .bool b=>K (.bool (!b))|_=>rq (!gc) (K .any)
 | .un .neg x=>match e x with | .int k n=>K (.int k (k.wrap (0-n)))|_=>rq (!gc) (K .any)
 | .bin op x y=>match e x,e y with
   | .int k a,.int k' b=>rq (shk op k k') (bB5 op k a b gc K)
   |_,_=>rq (!gc) (K .any)
 | .conv k x=>match e x with | .int _ n=>K (.int k (k.wrap n))|_=>rq (!gc) (K .any)
 | .nilck x=>match e x with
   | .ptr k i c=>K (.ptr k i c)
   | .rp es cs c=>K (.rp es cs c)
   |_=>rq (!gc) (K .any)
 | .faddr off x=>match e x with
   | .ptr k i c=>K (.ptr k i (c+off))
   | .rp es cs c=>K (.rp es cs (c+off))
   |_=>rq (!gc) (K .any)
 | .ld agg n x=>match e x with
   | .ptr k i c=>match S.get k with
     |some (.row es xs)=>gq gc (decide (i<xs.length)) (rq (decide (c+n≤es)) (K (nT agg es (xs.getD i []) c n)))
     |some (.box cs)=>gr gc (decide (i=0∧c+n≤cs.length)) (K (nT agg cs.length cs c n))
     |_=>rq (!gc) (K .any)
   | .rp es cs c=>gr gc (decide (c+n≤es)) (K (nT agg es cs c n))
   |_=>rq (!gc) (K .any)
 | .eqb neg x y=>match e x,e y with
   | .bool p,.bool q=>(match neg with |true=>K (.bool (!(p==q)))|false=>K (.bool (p==q)))
   |_,_=>rq (!gc) (K .any)
 | .eqs neg offs x y=>match e x,e y with
   | .agg xs,.agg ys=>aI5 offs xs ys true fun r=>(match neg with |true=>K (.bool (!r))|false=>K (.bool r))
   |_,_=>rq (!gc) (K .any)
 | .extr i x=>match e x with
   | .tup vs=>rq (decide (i<vs.length)) (K (vs.getD i .any))
   |_=>rq (!gc) (K .any)
 | .fget agg off n x=>match e x with
   | .agg cs=>rq (decide (off+n≤cs.length)) (K (nT agg cs.length cs off n))
   |_=>rq (!gc) (K .any)
 | .mkfn f xs=>K (.fn f (xs.map e))
 | .isnil neg x=>match e x with
   | .lst _ _ (_::_)=>K (.bool neg)
   | .val (.slice none _ _)=>K (.bool (!neg))
   | .val (.slice (some _) _ _)=>K (.bool neg)
   |_=>rq (!gc) (K .any)
 | .slc3 es x lo hi mx=>match tK (e x) with
   | .sl k off len=>match S.get k with
     |some (.row es' _)=>
      match(match lo with |none=>V.int .i64 0 |some l=>e l),e hi,e mx with
      | .int _ l,.int _ h,.int _ m=>rq (decide (es'=es)) (gq gc (decide (0≤l∧l≤h∧h=m∧m≤(len:Int))) (K (.slx k (off+l.toNat) (h.toNat-l.toNat))))
      |_,_,_=>rq (!gc) (K .any)
     |_=>rq (!gc) (K .any)
   |_=>rq (!gc) (K .any)
 | .iaddr es x i=>match tK (e x),e i with
   | .sl k off len,.int _ j=>match pX (S.get k) with
     |some es'=>rq (decide (es'=es)) (gq gc (decide (0≤j∧j< (len:Int))) (K (.ptr k (off+j.toNat) 0)))
     |_=>rq (!gc) (K .any)
   | .lst es' _ xs,.int _ j=>gq gc (decide (es'=es∧0≤j∧j< (xs.length:Int))) (K (.rp es (xs.getD j.toNat []) 0))
   |_,_=>rq (!gc) (K .any)
 | .iarr n es x i=>match e x,e i with
   | .ptr k i0 c,.int _ j=>gq gc (decide (0≤j∧j< (n:Int))) (K (.ptr k i0 (c+j.toNat*es)))
   | .rp es' cs c,.int _ j=>gq gc (decide (0≤j∧j< (n:Int))) (K (.rp es' cs (c+j.toNat*es)))
   |_,_=>rq (!gc) (K .any)
 | .aidx n x i=>match e x,e i with
   | .agg cs,.int _ j=>rq (decide (cs.length=n)) (gq gc (decide (0≤j∧j< (n:Int))) (K (cs.getD j.toNat .any)))
   |_,_=>rq (!gc) (K .any)
 | .slc es x lo hi=>match tK (e x) with
   | .sl k off len=>match pX (S.get k) with
     |some es'=>
      match(match lo with |none=>V.int .i64 0 |some l=>e l),(match hi with |none=>V.int .i64 (len:Int)|some h=>e h) with
      | .int _ l,.int _ h=>rq (decide (es'=es)) (gq gc (decide (0≤l∧l≤h∧h≤(len:Int))) (K (.sl k (off+l.toNat) (h.toNat-l.toNat))))
      |_,_=>rq (!gc) (K .any)
     |_=>rq (!gc) (K .any)
   | .lst es' _ xs=>
    match(match lo with |none=>V.int .i64 0 |some l=>e l),(match hi with |none=>V.int .i64 (xs.length:Int)|some h=>e h) with
    | .int _ l,.int _ h=>gq gc (decide ((es'=es∨xs.isEmpty=true)∧0≤l∧l≤h∧h≤(xs.length:Int))) (K (.lst es' false ((xs.take h.toNat).drop l.toNat)))
    |_,_=>rq (!gc) (K .any)
   |_=>rq (!gc) (K .any)
 | .len x=>match tK (e x) with
   | .sl _ _ len=>K (.int .i64 (len:Int))
   | .lst _ _ xs=>K (.int .i64 (xs.length:Int))
   |_=>rq (!gc) (K .any)
 | .slen x=>match e x with
   | .str s=>K (.int .i64 (s.size:Int))
   |_=>rq (!gc) (K .any)
 | .sidx x i=>match e x,e i with
   | .str s,.int _ j=>gq gc (decide (0≤j∧j< (s.size:Int))) (K (.int .u8 ((s.data.toList.getD j.toNat 0).toNat:Int)))
   |_,_=>rq (!gc) (K .any)
 | .ssl x lo hi=>match e x with
   | .str s=>match(match lo with |none=>V.int .i64 0 |some l=>e l),(match hi with |none=>V.int .i64 (s.size:Int)|some h=>e h) with
     | .int _ l,.int _ h=>gq gc (decide (0≤l∧l≤h∧h≤(s.size:Int))) (K (.str (s.extract l.toNat h.toNat)))
     |_,_=>rq (!gc) (K .any)
   |_=>rq (!gc) (K .any)
 | .scat x y=>match e x,e y with
   | .str a,.str b=>gq gc (Nat.ble (a.size+b.size) 9223372036854775807) (K (.str (a++b)))
   |_,_=>rq (!gc) (K .any)
 | .sqs neg x y=>match e x,e y with
   | .str a,.str b=>(match neg with |true=>K (.bool (!lJ a b))|false=>K (.bool (lJ a b)))
   |_,_=>rq (!gc) (K .any)
 | .b2s x=>match tK (e x) with
   | .sl k off len=>match S.get k with
     |some (.row 1 xs)=>match fM ((xs.drop off).take len) with
      |some l=>gq gc (decide (off+len≤xs.length)) (K (.str ⟨l.toArray⟩))
      |none=>rq (!gc) (K .any)
     |some (.bb l)=>gq gc (decide (off+len≤l.length)) (K (.str ⟨((l.drop off).take len).toArray⟩))
     |_=>rq (!gc) (K .any)
   | .lst 1 _ xs=>match fM xs with
     |some l=>K (.str ⟨l.toArray⟩)
     |none=>rq (!gc) (K .any)
   |_=>rq (!gc) (K .any)
 | .mx x y=>match e x,e y with
   | .int k a,.int _ b=>K (.int k (max a b))
   |_,_=>rq (!gc) (K .any)
 | .mn x y=>match e x,e y with
   | .int k a,.int _ b=>K (.int k (min a b))
   |_,_=>rq (!gc) (K .any)
 | .mget z ok x i=>match e x,e i with
   | .mp k,.int .i64 j=>match S.get k with
     |some (.mp (1,xs))=>(match ok with |true=>K (.tup [dZ xs [j] z,.bool (lA xs [j])])|false=>K (dZ xs [j] z))
     |_=>rq (!gc) (K .any)
   |_,_=>rq (!gc) (K .any)
 | .mgetp z ok x i=>match e x,e i with
   | .mp k,.agg [.int .i64 a,.int .i64 b]=>match S.get k with
     |some (.mp (2,xs))=>(match ok with |true=>K (.tup [dZ xs [a,b] z,.bool (lA xs [a,b])])|false=>K (dZ xs [a,b] z))
     |_=>rq (!gc) (K .any)
   |_,_=>rq (!gc) (K .any)
 |_=>False
theorem aLP(S:aC)(i:I)(e:A→V)(gc:Bool)(K:V→Prop):rdF S i e gc K=fB S i e gc K:=by
 cases i with
 |un op x=>cases op <;> simp only [rdF,fB,aLZ] <;> rfl
 |_=>simp only [rdF,fB,eW,aL5,bBR,decide_eq_true_iff,zS,zL,aVW,aBL,yC] <;> rfl
def wrF(S:aC)(n:Nat)(i:I)(e:A→V)(K:V→aC→Nat→Prop):Prop:=
 match i with
 | .alloc z=>K (.ptr n 0 0) (S.set n (.box z)) (n+1)
 | .box x=>match(e x).cells? with
   |some cs=>rq (cs.all mT) (K (.ptr n 0 0) (S.set n (.box cs)) (n+1))
   |none=>False
 | .st m x y=>match e x,(e y).cells? with
   | .ptr k i c,some cs=>match S.get k with
     |some (.row es xs)=>rq (decide (i<xs.length)) (rq (decide (c+m≤es)) (rq (decide (cs.length=m)) (rq (cs.all bW) (K .any (S.set k (.row es (xs.set i (aR es (xs.getD i []) c cs)))) n))))
     |some (.box bs)=>rq (decide (i=0)) (rq (decide (c+m≤bs.length)) (rq (decide (cs.length=m)) (rq (cs.all mT) (K .any (S.set k (.box (aR bs.length bs c cs))) n))))
     |some (.bb l)=>match cs with
      | [.int .u8 v]=>rq (decide (m=1∧c=0)) (rq (decide (i<l.length)) (rq (decide (0≤v∧v<256)) (K .any (S.set k (.bb (l.set i (UInt8.ofNat v.toNat)))) n)))
      |_=>False
     |_=>False
   |_,_=>False
 | .s2b x=>match e x with
   | .str s=>rq (Nat.ble s.size 9223372036854775807) (K (.sl n 0 s.size) (S.set n (.bb s.data.toList)) (n+1))
   |_=>False
 | .aslc len x hi=>match e x with
   | .ptr k 0 0=>match S.get k with
     |some (.box cs)=>match(match hi with |none=>V.int .i64 (len:Int)|some h=>e h) with
      | .int _ h=>rq (decide (cs.length=len∧cs.all bW=true∧0≤h∧h≤(len:Int)))<|K (.lst 1 false ((cs.take h.toNat).map fun c=> [c])) (S.del k) n
      |_=>False
     |_=>False
   |_=>False
 | .cpys x y=>match e y,tK (e x) with
   | .str s,.sl k off len=>match S.get k with
     |some (.row 1 xs)=>rq (decide (off+len≤xs.length))<|
      K (.int .i64 (min s.size len:Nat)) (S.set k (.row 1 (xs.take off++(cJ s.data.toList).take (min s.size len)++xs.drop (off+min s.size len)))) n
     |some (.bb l)=>rq (decide (off+len≤l.length))<|
      K (.int .i64 (min s.size len:Nat)) (S.set k (.bb (l.take off++s.data.toList.take (min s.size len)++l.drop (off+min s.size len)))) n
     |_=>False
   |_,_=>False
 | .mkmap ks=>K (.mp n) (S.set n (.mp (ks,[]))) (n+1)
 | .mput x i y=>match e x,e i with
   | .mp k,.int .i64 j=>match S.get k with
     |some (.mp (1,xs))=>rq (bW (e y)) (K .any (S.set k (.mp (1,fW xs [j] (e y)))) n)
     |_=>False
   |_,_=>False
 | .mputp x i y=>match e x,e i with
   | .mp k,.agg [.int .i64 a,.int .i64 b]=>match S.get k with
     |some (.mp (2,xs))=>rq (bW (e y)) (K .any (S.set k (.mp (2,fW xs [a,b] (e y)))) n)
     |_=>False
   |_,_=>False
 | .bslice es z m ps=>match rU es (yA m z) (ps.map fun p=>(p.1,e p.2)) with
   |some rows=>K (.sl n 0 m) (S.set n (.row es rows)) (n+1)
   |none=>False
 | .mk es bytes z l c=>match e l,e c with
   | .int _ l,.int _ c=>rq (decide (0≤l∧l≤c)) (rq (mkB bytes c) (K (.slk n 0 l.toNat c.toNat) (S.set n (.row es (yA l.toNat z))) (n+1)))
   |_,_=>False
 | .app es bytes x y=>match aJT S (e y) with
   |some (es',len',ys)=>rq (decide ((es'=es∨ys.isEmpty=true)∧ys.length=len'))<|match tK (e x) with
    | .lst _ true []=>rq (aP2 ys.length bytes) (K (.sl n 0 ys.length) (S.set n (.row es ys)) (n+1))
    | .sl k off len=>match S.get k with
      |some (.row es2 xs)=>rq (decide (es2=es∧off=0)) (rq (decide (len=xs.length)) (rq (aP2 (xs.length+ys.length) bytes)
       (K (.sl n 0 (xs.length+ys.length)) ((S.del k).set n (.row es (xs++ys))) (n+1))))
      |_=>False
    | .slx k off len=>match S.get k with
      |some (.row es2 xs)=>rq (decide (es2=es∧off=0)) (rq (decide (len≤xs.length)) (rq (aP2 (len+ys.length) bytes)
       (K (.sl n 0 (len+ys.length)) ((S.del k).set n (.row es (xs.take len++ys))) (n+1))))
      |_=>False
    |_=>False
   |none=>False
 | .clr es z x=>match tK (e x) with
   | .sl k off len=>match S.get k with
     |some (.row es2 xs)=>rq (decide (es2=es))<|rq (decide (off+len≤xs.length))<|K (.tup []) (S.set k (.row es (xs.take off++yA len z++xs.drop (off+len)))) n
     |_=>False
   |_=>False
 | .cpy es x y=>match aJT S (e y),tK (e x) with
   |some (es',len',ys),.sl k off len=>match S.get k with
    |some (.row es2 xs)=>rq (decide ((es'=es∨ys.isEmpty=true)∧ys.length=len'))<|rq (decide (es2=es))<|rq (decide (off+len≤xs.length))<|
     K (.int .i64 (min ys.length len:Nat)) (S.set k (.row es (xs.take off++ys.take (min ys.length len)++xs.drop (off+min ys.length len)))) n
    |_=>False
   |_,_=>False
 |_=>False
theorem aV3(S:aC)(n:Nat)(i:I)(e:A→V)(K:V→aC→Nat→Prop):wrF S n i e K=mO S n i e K:=by
 cases i with
 |mk es bytes z l c=>simp only [wrF,mO,mk_eq] <;> rfl
 |_=>simp only [wrF,mO,eW,decide_eq_true_iff,zS,aMO,yC,and_assoc] <;> rfl
def pZ(ssl:aX)(sso:aC)(snx:Nat)(ch:List (Nat×Bool))(gc:Bool)(i:I)(K:V→aC→Nat→Prop):Prop:=
 match ch with
 | []=>wrF sso snx i (bN ssl []) K
 |g::r=>match gc with
  |true=>wrF sso snx i (bN ssl (g::r)) K
  |false=>K .any sso snx
theorem aYN(ssl:aX)(sso:aC)(snx:Nat)(ch:List (Nat×Bool))(gc:Bool)(i:I)(K:V→aC→Nat→Prop):pZ ssl sso snx ch gc i K=kH ssl sso snx ch gc i K:=by
 cases ch with
 |nil=>exact aV3 _ _ _ _ _
 |cons g r=>cases gc <;> simp [pZ,kH,aV3]
def eA(P:Program)(ssl:aX)(sso:aC)(snx:Nat)(ch:List (Nat×Bool))(gc:Bool)(i:I)(K:V→aC→Nat→Prop):Prop:=
 match i with
 | .pick (.t tc) a b=>match bN ssl ch (.t tc) with
   | .bool x=>match bN ssl ((tc,true)::ch) a,bN ssl ((tc,false)::ch) b with
     | .bool p,.bool q=>K (.bool (bif x then p else q)) sso snx
     |u,v=>match x with
      |true=>K u sso snx
      |false=>K v sso snx
   |_=>rq (!gc) (K .any sso snx)
 | .build z ps=>match aAH z (ps.map fun p=>(p.1,p.2.1,bN ssl ch p.2.2)) with
   |some cs=>rq (z.all mT) (K (.agg cs) sso snx)
   |none=>False
 | .call f xs=>lT (pE P f (xs.map (bN ssl ch)) sso gc fun v=>K v sso snx) ((gc=true→mX P f (xs.map (bN ssl ch)) sso snx K)∧(gc=false→K .any sso snx)) ((gc=true→oP P f (xs.map (bN ssl ch)) sso snx K)∧(gc=false→K .any sso snx)) ((gc=true→qR P f (xs.map (bN ssl ch)) sso snx K)∧(gc=false→K .any sso snx))
 | .vcall x xs=>match bN ssl ch x with
   | .fn f caps=>eP P f∧lT (pE P f (xs.map (bN ssl ch)++caps) sso gc fun v=>K v sso snx) ((gc=true→mX P f (xs.map (bN ssl ch)++caps) sso snx K)∧(gc=false→K .any sso snx)) ((gc=true→oP P f (xs.map (bN ssl ch)++caps) sso snx K)∧(gc=false→K .any sso snx)) ((gc=true→qR P f (xs.map (bN ssl ch)++caps) sso snx K)∧(gc=false→K .any sso snx))
   |_=>rq (!gc) (K .any sso snx)
 | .clr es z x=>pZ ssl sso snx ch gc (.clr es z x) K
 | .alloc z=>pZ ssl sso snx ch gc (.alloc z) K
 | .box x=>pZ ssl sso snx ch gc (.box x) K
 | .st m x y=>pZ ssl sso snx ch gc (.st m x y) K
 | .mkmap ks=>pZ ssl sso snx ch gc (.mkmap ks) K
 | .s2b x=>pZ ssl sso snx ch gc (.s2b x) K
 | .aslc n x h=>pZ ssl sso snx ch gc (.aslc n x h) K
 | .cpys x y=>pZ ssl sso snx ch gc (.cpys x y) K
 | .mput x i y=>pZ ssl sso snx ch gc (.mput x i y) K
 | .mputp x i y=>pZ ssl sso snx ch gc (.mputp x i y) K
 | .bslice es z m ps=>pZ ssl sso snx ch gc (.bslice es z m ps) K
 | .mk es by_ z l c=>pZ ssl sso snx ch gc (.mk es by_ z l c) K
 | .app es by_ x y=>pZ ssl sso snx ch gc (.app es by_ x y) K
 | .cpy es x y=>pZ ssl sso snx ch gc (.cpy es x y) K
 |i=>rdF sso i (bN ssl ch) gc fun v=>K v sso snx
theorem aGF(P:Program)(ssl:aX)(sso:aC)(snx:Nat)(ch:List (Nat×Bool))(gc:Bool)(i:I)(K:V→aC→Nat→Prop):eA P ssl sso snx ch gc i K=cY P ssl sso snx ch gc i K:=by
 cases i with
 |pick c a b=>cases c <;> simp only [eA,cY,aLZ,aLP] <;> rfl
 |_=>simp only [eA,cY,eW,zL,aLP,aYN] <;> rfl
end Go.Sk
namespace Go.Sk
open Go Go.RowKit
variable [fQ]
def eH(kill:List Nat):aX→(aX→Prop)→Prop
 | [],K=>K []
 | (d,⟨[],gc,v⟩)::r,K=>match gE d kill with
   |true=>eH kill r K
   |false=>eH kill r fun r'=>K ((d,⟨[],gc,v⟩)::r')
 | (_,⟨_::_,_,_⟩)::r,K=>eH kill r K
theorem gC(kill:List Nat):∀(l:aX) (K:aX→Prop),eH kill l K=K (clean kill l)
 | [],_=>rfl
 | (d,⟨[],gc,v⟩)::r,K=>by
   simp only [eH,clean]
   cases h:gE d kill with
   |true=>simpa using gC kill r K
   |false=>simpa using gC kill r _
 | (_,⟨_::_,_,_⟩)::r,K=>by simp only [eH,clean];exact gC kill r K
def aBD(P:Program):List oD→St→(St→Prop)→Prop
 | [],st,K=>K st
 | ⟨d,g,i⟩::r,⟨ssl,sso,snx⟩,K=>qJ ssl g fun ch gc=>eA P ssl sso snx ch gc i fun v S n=>kU v fun v=>cV S fun S=>cG 64 0 n fun n=>aDI ssl d ⟨ch,gc,v⟩ fun sl=>aBD P r ⟨sl,S,n⟩ K
theorem aBP(P:Program):∀(l:List oD) (st:St) (K:St→Prop),aBD P l st K=uM P l st K
 | [],_,_=>rfl
 | ⟨d,g,i⟩::r,st,K=>by
   simp only [aBD,uM,nD,aGF,gD,dV,dQ,qX,aBP P r]
   cases guardOf st.sl g <;> rfl
def cq(x:Bool)(A B:Prop):Prop:=
 match x with
 |true=>A
 |false=>B
theorem aMT {x:Bool} {A B:Prop} :cq x A B=((x=true→A)∧(x=false→B)):=by cases x <;> simp [cq]
theorem aI {x:Bool} {A B:Prop} (h:x=true→A)(k:x=false→B):cq x A B:=by rw [aMT];exact⟨h,k⟩
def codeF(P:Program)(n0:Nat):RC→St→(Ex→St→Prop)→Prop
 | .skip,st,K=>K .normal st
 | .reg l kill,st,K=>aBD P l st fun | ⟨sl0,so0,nx0⟩=>eH kill sl0 fun sl=>K .normal ⟨sl,so0,nx0⟩
 | .dreg b0 n l kill an ms,st,K=>match Nat.ble st.nx b0 with
   |true=>lY P l ms ⟨st.sl,st.so,n⟩ fun |recs,⟨sl0,so0,nx0⟩=>lX recs an 0=true∧eH kill (look sl0 (pS sl0)) fun sl=>K .normal ⟨sl,so0,nx0⟩
   |false=>lY P l (shM st.nx ms) ⟨st.sl,st.so,n+st.nx⟩ fun |recs,⟨sl0,so0,nx0⟩=>lX recs an 0=true∧eH kill (look sl0 (pS sl0)) fun sl=>K .normal ⟨sl,so0,nx0⟩
 | .seq a b,st,K=>codeF P n0 a st fun e st'=>match e with
   | .normal=>codeF P n0 b st' K
   | .exit id=>K (.exit id) st'
   | .ret=>K .ret st'
 | .regc a b kill,st,K=>∃(α:Type) (I:α→Prop) (F:α→St),(aBD P a st fun st'=>∃x,I x∧View n0 st' (F x))∧∀x,I x→aBD P b (F x) fun | ⟨sl0,so0,nx0⟩=>eH kill sl0 fun sl=>K .normal ⟨sl,so0,nx0⟩
 | .regv a d b kill,st,K=>∃(α:Type) (I:α→Prop) (F:α→St),(aBD P a st fun st'=>aY7 st' d fun st''=>∃x,I x∧View n0 st'' (F x))∧∀x,I x→aBD P b (F x) fun | ⟨sl0,so0,nx0⟩=>eH kill sl0 fun sl=>K .normal ⟨sl,so0,nx0⟩
 | .cut a b,st,K=>∃(α:Type) (I:α→Prop) (F:α→St),(codeF P n0 a st fun e st'=>match e with
   | .normal=>∃x,I x∧View n0 st' (F x)
   | .exit id=>K (.exit id) st'
   | .ret=>K .ret st')∧∀x,I x→codeF P n0 b (F x) K
 | .cond c a b,st,K=>match bN st.sl [] c with
   | .bool x=>cq x (codeF P n0 a st K) (codeF P n0 b st K)
   |_=>False
 | .block id c,st,K=>codeF P n0 c st fun e st'=>match e with
   | .exit j=>match Nat.beq j id with
     |true=>K .normal st'
     |false=>K (.exit j) st'
   | .normal=>K .normal st'
   | .ret=>K .ret st'
 | .loop c,st,K=>∃(α:Type) (I:α→Prop) (F:α→St) (m:α→Nat),(∃a,I a∧View n0 st (F a))∧∀a,I a→codeF P n0 c (F a) fun e st'=>match e with
   | .normal=>∃a',I a'∧View n0 st' (F a')∧m a'<m a
   | .exit id=>K (.exit id) st'
   | .ret=>K .ret st'
 | .uloop c,st,K=>∃n,sL (codeF P n0 c) K n st
 | .exit id,st,K=>K (.exit id) st
 | .ret,st,K=>K .ret st
 | .bad,_,_=>False
theorem codeF_eq(P:Program)(n0:Nat):∀(rc:RC) (st:St) (K:Ex→St→Prop),codeF P n0 rc st K=cX P n0 rc st K:=by
 intro rc
 induction rc with
 |skip=>intro st K;rfl
 |reg l kill=>intro st K;simp only [codeF,cX,aBP,gC]
 |dreg b0 n l kill an ms=>intro st K;simp only [codeF,cX,gC];try(cases Nat.ble st.nx b0 <;> rfl)
 |seq a b iha ihb=>
  intro st K
  simp only [codeF,cX,iha]
  congr 1
  funext e st'
  cases e <;> simp only [ihb]
 |regc a b kill=>intro st K;simp only [codeF,cX,aBP,gC]
 |regv a d b kill=>intro st K;simp only [codeF,cX,aBP,gC]
 |cut a b iha ihb=>
  intro st K
  simp only [codeF,cX,iha,ihb]
  try rfl
 |cond c a b iha ihb=>
  intro st K
  simp only [codeF,cX,iha,ihb,aMT]
  try rfl
 |uloop c ih=>
  intro st K
  have e:codeF P n0 c=cX P n0 c:=by funext st K;exact ih st K
  simp only [codeF,cX,e]
 |block id c ih=>
  intro st K
  simp only [codeF,cX,ih]
  congr 1
  funext e st'
  cases e with
  |exit j=>
   simp only
   cases h:Nat.beq j id with
   |true=>rw [if_pos (zY h)]
   |false=>rw [if_neg (Nat.ne_of_beq_eq_false h)]
  |_=>rfl
 |loop c ih=>
  intro st K
  simp only [codeF,cX,ih]
  try rfl
 |exit id=>intro st K;rfl
 |ret=>intro st K;rfl
 |bad=>intro st K;rfl
theorem bBN {P:Program} {f:FuncId} {fn:Func} {rc:RC} {rvs:List RV} {ob0 ob1:List Obj} {args:List V} {res:V} (hf:P.funcs[f]? =some fn)(hb0:fn.body.isSome=true)(hres0:dD P fn.ntmps (fn.body.getD .skip)=some (strip rc))
 (hrv:fn.results.toList.mapM (iU P)=some rvs) (hn:args.length≤fn.ntmps)
 (hK:cG 16 0 ob0.length fun n0=>codeF P n0 rc ⟨eL 0 args,aL 0 ob0,n0⟩ (fO P n0 rvs res ob1)):aQ P f ob0 args res ob1:=
 aZ1 hf hb0 hres0 hrv hn (by rw [dQ] at hK;rw [←codeF_eq];exact hK)
end Go.Sk
namespace Go.Sk
open Go Go.RowKit
variable [fQ]
structure Cd(P:Program)(n0:Nat)(rc:RC)(st:St)(K:Ex→St→Prop):Prop where
 h:codeF P n0 rc st K
def bE5(P:Program)(n0:Nat)(b:RC)(K:Ex→St→Prop)(e:Ex)(st':St):Prop:=
 match e with
 | .normal=>Cd P n0 b st' K
 | .exit id=>K (.exit id) st'
 | .ret=>K .ret st'
def bDZ {α:Type} (n0:Nat)(I:α→Prop)(F:α→St)(K:Ex→St→Prop)(e:Ex)(st':St):Prop:=
 match e with
 | .normal=>∃x,I x∧View n0 st' (F x)
 | .exit id=>K (.exit id) st'
 | .ret=>K .ret st'
def aR3(id:Nat)(K:Ex→St→Prop)(e:Ex)(st':St):Prop:=
 match e with
 | .exit j=>match Nat.beq j id with
   |true=>K .normal st'
   |false=>K (.exit j) st'
 | .normal=>K .normal st'
 | .ret=>K .ret st'
def aMI {α:Type} (n0:Nat)(I:α→Prop)(F:α→St)(m:α→Nat)(a:α)(K:Ex→St→Prop)(e:Ex)(st':St):Prop:=
 match e with
 | .normal=>∃a',I a'∧View n0 st' (F a')∧m a'<m a
 | .exit id=>K (.exit id) st'
 | .ret=>K .ret st'
section
variable {P:Program} {n0:Nat} {st:St} {K:Ex→St→Prop}
theorem aME(rc:RC)(st:St)(K:Ex→St→Prop):Cd P n0 rc st K=codeF P n0 rc st K:=propext ⟨fun h=>h.h,fun h=>⟨h⟩⟩
theorem Cd.skip(h:K .normal st):Cd P n0 .skip st K:=⟨h⟩
theorem Cd.exit {id:Nat} (h:K (.exit id) st):Cd P n0 (.exit id) st K:=⟨h⟩
theorem Cd.ret(h:K .ret st):Cd P n0 .ret st K:=⟨h⟩
theorem Cd.reg {l:List oD} {kill:List Nat} (h:aBD P l st fun | ⟨sl0,so0,nx0⟩=>eH kill sl0 fun sl=>K .normal ⟨sl,so0,nx0⟩):Cd P n0 (.reg l kill) st K:=⟨h⟩
theorem Cd.seq {a b:RC} (h:Cd P n0 a st (bE5 P n0 b K)):Cd P n0 (.seq a b) st K:=by
 refine⟨?_⟩
 have h:Cd P n0 a st fun e st'=>match e with
  | .normal=>Cd P n0 b st' K
  | .exit id=>K (.exit id) st'
  | .ret=>K .ret st':=h
 have h:=h.h
 simp only [aME] at h
 exact h
theorem Cd.cut {a b:RC} (h:∃(α:Type) (I:α→Prop) (F:α→St),Cd P n0 a st (bDZ n0 I F K)∧∀x,I x→Cd P n0 b (F x) K):Cd P n0 (.cut a b) st K:=by
 refine⟨?_⟩
 obtain⟨α,I,F,h1,h2⟩:=h
 exact⟨α,I,F,h1.h,fun x hx=>(h2 x hx).h⟩
theorem Cd.cond {c:A} {a b:RC} (h:match bN st.sl [] c with
 | .bool x=>cq x (Cd P n0 a st K) (Cd P n0 b st K)
 |_=>False):Cd P n0 (.cond c a b) st K:=by
 refine⟨?_⟩
 simp only [aME] at h
 exact h
theorem Cd.block {id:Nat} {c:RC} (h:Cd P n0 c st (aR3 id K)):Cd P n0 (.block id c) st K:=⟨h.h⟩
theorem Cd.loop {c:RC} (h:∃(α:Type) (I:α→Prop) (F:α→St) (m:α→Nat),(∃a,I a∧View n0 st (F a))∧∀a,I a→Cd P n0 c (F a) (aMI n0 I F m a K)):Cd P n0 (.loop c) st K:=by
 refine⟨?_⟩
 obtain⟨α,I,F,m,h1,h2⟩:=h
 exact⟨α,I,F,m,h1,fun a ha=>(h2 a ha).h⟩
theorem Cd.uloop {c:RC} (h:∃n,sL (Cd P n0 c) K n st):Cd P n0 (.uloop c) st K:=by
 refine⟨?_⟩
 obtain⟨n,h⟩:=h
 have e:Cd P n0 c=codeF P n0 c:=by funext st K;exact aME c st K
 rw [e] at h
 exact⟨n,h⟩
theorem bBL {f:FuncId} {fn:Func} {rc:RC} {rvs:List RV} {ob0 ob1:List Obj} {args:List V} {res:V} (hf:P.funcs[f]? =some fn)(hb0:fn.body.isSome=true)(hres0:dD P fn.ntmps (fn.body.getD .skip)=some (strip rc))
 (hrv:fn.results.toList.mapM (iU P)=some rvs) (hn:args.length≤fn.ntmps)
 (hK:cG 16 0 ob0.length fun n0=>Cd P n0 rc ⟨eL 0 args,aL 0 ob0,n0⟩ (fO P n0 rvs res ob1)):aQ P f ob0 args res ob1:=
 bBN hf hb0 hres0 hrv hn (by rw [dQ] at hK⊢;exact hK.h)
end
end Go.Sk
