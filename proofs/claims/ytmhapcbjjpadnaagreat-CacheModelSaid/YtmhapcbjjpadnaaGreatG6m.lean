/- Caches. -/
import Derived.Test.YtmhapcbjjpadnaaGreatG5m
import Derived.Test.YtmhapcbjjpadnaaGreatG4m
import Derived.Test.YtmhapcbjjpadnaaGreatG3m
set_option linter.unusedSimpArgs false
set_option linter.unusedVariables false
open Array renaming getElem?_modify→zM
open Bool renaming not_eq_false'→zA,cond_false_right→zC,cond_true_left→zD,not_eq_true'→zE,not_not→zF,or_eq_false_iff→zG,not_true→zN
open List renaming getElem_of_mem→zH,filter_sublist→zI,getElem_mem→zJ,getElem?_cons_zero→zK,getElem?_map→zO,length_take→zR
open Nat renaming zero_mul→zP,zero_add→zQ
open Option renaming map_eq_some_iff→zL
set_option linter.constructorNameAsVariable false
set_option maxRecDepth 40000
namespace Go.Proofs.YtmhapcbjjpadnaaGreat
open Go Go.Sk Go.RowKit
def sC(l:Ls)(f:Int):Bool:=decide (f∈l.A)||decide (f∈l.I)
theorem aTM(l:Ls)(f:Int)(hl:jD l):aQ Tryz.prog 240 [] [.agg l.c,.int .i64 f] (.bool (sC l f)) []:=by
 have h1:=hl.a;have h2:=hl.i
 refine aF (ob0:= []) [] Tryz.func240 rfl rfl rfl rfl ?_
 refine Wk2 (aTG l.A false f (by omega)) (aTG l.I false f (by omega)) ?_
 try subst hk
 exact Lf
def jQ(l:Ls)(f:Int):Int:=bif !iI l then 1 else bif !dM f then 2 else 0
theorem aTL(l:Ls)(f:Int)(hl:jD l):aQ Tryz.prog 239 [] [.agg l.c,.int .i64 f] (.int .i64 (jQ l f)) []:=by
 refine aF (ob0:= []) [] Tryz.func239 rfl rfl rfl rfl ?_
 generalize hk:jQ l f=q
 rw [jQ] at hk
 refine dF (aZY l hl) ?_
 refine aI (fun c1=>?_) (fun c1=>?_)<;> try simp only [zD,zC,zE,zA,zF] at c1
 ·rw [show(!iI l)=true by rw [c1];rfl] at hk
  have hk:1=q:=hk
  subst hk
  refine Wk ?_
  try subst hk
  exact Lf
 rw [show(!iI l)=false by rw [c1];rfl,cond_false] at hk
 refine dF (bAD f) ?_
 refine aI (fun c2=>?_) (fun c2=>?_)<;> try simp only [zD,zC,zE,zA,zF] at c2
 ·rw [show(!dM f)=true by rw [c2];rfl] at hk
  have hk:2=q:=hk
  subst hk
  refine Wk ?_
  try subst hk
  exact Lf
 rw [show(!dM f)=false by rw [c2];rfl] at hk
 have hk:0=q:=hk
 subst hk
 refine Wk ?_
 try subst hk
 exact Lf
def aR8(fr:List Int→List Int)(l:Ls)(f:Int)(act:Bool):Ls×Int:=
 bif !iI l then(l,1) else bif !dM f then(l,2) else bif sC l f then(l,5) else
 bif act then(⟨fr l.A,l.I,l.R⟩,0) else(⟨l.A,fr l.I,l.R⟩,0)
def aB7(l:Ls)(f:Int)(act:Bool):Ls×Int:=aR8 (fun x=>f::wo x f) l f act
def aDY(l:Ls)(f:Int)(act:Bool):Ls×Int:=aR8 (fun x=>f::x) l f act
set_option maxRecDepth 20000 in
set_option maxHeartbeats 1000000 in
theorem aZI(l:Ls)(f:Int)(act:Bool)(hl:jD l):aQ Tryz.prog 149 [] [.agg l.c,.int .i64 f,.bool act] (.tup [.agg (aB7 l f act).1.c,.int .i64 (aB7 l f act).2]) []:=by
 have h1:=hl.a;have h2:=hl.i;have h3:=hl.r
 refine aF (ob0:= []) [] Tryz.func149 rfl rfl rfl rfl ?_
 generalize hk:aB7 l f act=q
 rw [aB7,aR8] at hk
 refine Wk2 (aTK l hl) (aTL l f hl) ?_
 refine aI (fun c1=>?_) (fun c1=>?_)<;> try simp only [zD,zC,zE,zA,zF] at c1
 ·have hk:(l,jQ l f)=q:=by
   rw [←hk]
   unfold jQ
   unfold jQ at c1
   revert c1
   cases iI l <;> cases dM f <;> intro c1 <;> first |rfl |exact absurd c1 (by decide)
  subst hk
  refine Wk ?_
  try subst hk
  exact Lf
 have e1:iI l=true:=by unfold jQ at c1;cases h:iI l <;> simp [h] at c1⊢
 have e2:dM f=true:=by unfold jQ at c1;cases h:dM f <;> simp [h,e1] at c1⊢
 rw [e1,e2] at hk
 simp only [zN,cond_false] at hk
 refine dF (aTM l f hl) ?_
 refine aI (fun c2=>?_) (fun c2=>?_)<;> try simp only [zD,zC,zE,zA,zF] at c2
 ·rw [c2,cond_true] at hk
  subst hk
  refine Wk ?_
  try subst hk
  exact Lf
 rw [c2,cond_false] at hk
 refine Wk ?_
 refine aI (fun c3=>?_) (fun c3=>?_)<;> try simp only [zD,zC,zE,zA,zF] at c3
 ·rw [c3,cond_true] at hk
  subst hk
  refine dF (aTN l.A false f (by omega)) ?_
  try subst hk
  exact Lf
 rw [c3,cond_false] at hk
 subst hk
 refine dF (aTN l.I false f (by omega)) ?_
 try subst hk
 exact Lf
end Go.Proofs.YtmhapcbjjpadnaaGreat
set_option maxRecDepth 40000
namespace Go.Proofs.YtmhapcbjjpadnaaGreat
open Go Go.Sk Go.RowKit
def sE(l:Ls)(f:Int):Ls×Int:=
 bif !iI l then(l,1) else bif !dM f then(l,2) else bif !sC l f then(l,4) else(⟨wo l.A f,wo l.I f,wo l.R f⟩,0)
theorem aB5 {l:Ls} {f:Int} {α:Type} (a:Int→α)(b:α)(c1:(jQ l f != 0)=true):a (jQ l f)=bif !iI l then a 1 else bif !dM f then a 2 else b:=by
 unfold jQ at c1⊢
 revert c1
 cases iI l <;> cases dM f <;> intro c1 <;> first |rfl |exact absurd c1 (by decide)
theorem aK5 {l:Ls} {f:Int} (c1:(jQ l f != 0)=false):iI l=true∧dM f=true:=by
 unfold jQ at c1
 revert c1
 cases iI l <;> cases dM f <;> intro c1 <;> first |exact⟨rfl,rfl⟩|exact absurd c1 (by decide)
set_option maxRecDepth 20000 in
set_option maxHeartbeats 1000000 in
theorem bA2(l:Ls)(f:Int)(hl:jD l):aQ Tryz.prog 245 [] [.agg l.c,.int .i64 f] (.tup [.agg (sE l f).1.c,.int .i64 (sE l f).2]) []:=by
 have h1:=hl.a;have h2:=hl.i;have h3:=hl.r
 refine aF (ob0:= []) [] Tryz.func245 rfl rfl rfl rfl ?_
 generalize hk:sE l f=q
 rw [sE] at hk
 refine dF (aTL l f hl) ?_
 refine aI (fun c1=>?_) (fun c1=>?_)<;> try simp only [zD,zC,zE,zA,zF] at c1
 ·rw [←aB5 (fun e=>(l,e)) _ c1] at hk
  subst hk
  refine dF (aTK l hl) ?_
  try subst hk
  exact Lf
 obtain⟨e1,e2⟩:=aK5 c1
 rw [e1,e2] at hk
 simp only [zN,cond_false] at hk
 refine dF (aTM l f hl) ?_
 refine aI (fun c2=>?_) (fun c2=>?_)<;> try simp only [zD,zC,zE,zA,zF] at c2
 ·rw [show(!sC l f)=true by rw [c2];rfl,cond_true] at hk
  subst hk
  refine dF (aTK l hl) ?_
  try subst hk
  exact Lf
 rw [show(!sC l f)=false by rw [c2];rfl,cond_false] at hk
 subst hk
 refine Wk3 (aF8 l.A false f (by omega)) (aF8 l.I false f (by omega)) (aF8 l.R false f (by omega)) ?_
 try subst hk
 exact Lf
end Go.Proofs.YtmhapcbjjpadnaaGreat
set_option maxRecDepth 40000
namespace Go.Proofs.YtmhapcbjjpadnaaGreat
open Go Go.Sk Go.RowKit
structure aFQ(l:Ls):Prop where
 nodup:(l.A++l.I).Nodup
 known:∀f∈l.A++l.I,1≤f∧f≤64
 asc:l.R.Pairwise (·< ·)
 sub:∀f∈l.R,f∈l.A++l.I
theorem nN(f:Int):dM f=true↔1≤f∧f≤64:=by simp [dM]
theorem aKK {l:List Int} (step:∀i,i+1<l.length→l.getD i 0<l.getD (i+1) 0):l.Pairwise (·< ·):=by
 have mon:∀d i,i+d+1<l.length→l.getD i 0<l.getD (i+d+1) 0:=fun d=>by
  induction d with
  |zero=>exact fun i hi=>step i hi
  |succ d ih=>
   intro i hi
   have h1:=ih i (by omega)
   have h2:=step (i+d+1) (by omega)
   rw [show i+(d+1)+1=i+d+1+1 by omega]
   omega
 refine List.pairwise_iff_getElem.2 fun i j hi hj hij=>?_
 rw [fV,fV]
 have :=mon (j-i-1) i (by omega)
 rwa [show i+(j-i-1)+1=j by omega] at this
theorem gQ(l:Ls):iI l=true↔aFQ l:=by
 rw [iI,Bool.and_eq_true]
 generalize hall:l.A++l.I=all
 constructor
 ·rintro ⟨h1,h2⟩
  refine⟨?_,?_,?_,?_⟩
  ·rw [hall]
   refine List.pairwise_iff_getElem.2 fun i j hi hj hij e=>?_
   have :=jI hj h1
   simp only [aFU,zG,decide_eq_false_iff_not] at this
   refine this.2 ?_
   rw [←fV all j hj,←e]
   rw [List.mem_take_iff_getElem]
   exact⟨i,by omega,rfl⟩
  ·rw [hall]
   intro f hf
   obtain⟨i,hi,rfl⟩:=zH hf
   have :=jI hi h1
   simp only [aFU,zG,zA] at this
   rw [fV all i hi]
   exact(nN _).1 this.1
  ·refine aKK fun i hi=>?_
   have :=jI hi h2
   simp only [aHN,zG,Bool.and_eq_false_iff,decide_eq_false_iff_not] at this
   have h3:=this.2
   rw [Nat.add_sub_cancel] at h3
   omega
  ·rw [hall]
   intro f hf
   obtain⟨i,hi,rfl⟩:=zH hf
   have :=jI hi h2
   simp only [aHN,zG,zA,decide_eq_true_eq] at this
   rw [fV l.R i hi]
   exact this.1
 ·intro h
  have hn:=h.nodup
  have hk:=h.known
  have hs:=h.sub
  rw [hall] at hn hk hs
  refine⟨oX fun i hi=>?_,oX fun i hi=>?_⟩
  ·simp only [aFU,zG,zA,decide_eq_false_iff_not]
   rw [←fV all i hi]
   refine⟨(nN _).2 (hk _ (zJ hi)),fun hm=>?_⟩
   obtain⟨j,hj,e⟩:=zH hm
   rw [zR] at hj
   rw [List.getElem_take] at e
   exact List.pairwise_iff_getElem.1 hn j i (by omega) hi (by omega) e
  ·simp only [aHN,zG,zA,decide_eq_true_eq]
   first |refine aE (by rw [←fV l.R i hi];exact hs _ (zJ hi)) ?_ |refine⟨by rw [←fV l.R i hi];exact hs _ (zJ hi),?_⟩
   by_cases e:i=0
   ·simp [e]
   ·have :=jK h.asc (i-1) i (by omega) hi
    rw [show decide (l.R.getD i 0≤l.R.getD (i-1) 0)=false by rw [decide_eq_false_iff_not];omega,Bool.and_false]
theorem aMD {l:List Int} (h:l.Nodup) {x:Int} (hx:x∈l):(wo l x).length+1=l.length:=by
 have e:=List.Nodup.erase_eq_filter h x
 rw [wo,←e,List.length_erase_of_mem hx]
 have :=List.length_pos_of_mem hx
 omega
theorem rP:∀(n:Nat) {l:List Int} {lo:Int},l.Nodup→(∀x∈l,lo≤x∧x<lo+n)→l.length≤n
 |0,[],_,_,_=>Nat.le_refl 0
 |0,x::r,lo,_,h=>by have :=h x (by simp);omega
 |n+1,l,lo,hn,h=>by
  have hn':(wo l (lo+n)).Nodup:=hn.sublist zI
  have :=rP n (l:=wo l (lo+n)) (lo:=lo) hn' fun x hx=>by
   obtain⟨h1,h2⟩:=fE.1 hx
   have :=h x h1
   omega
  by_cases hm:(lo+n)∈l
  ·have :=aMD hn hm;omega
  ·rw [rX hm] at this;omega
theorem aFQ.len {l:Ls} (h:aFQ l):(l.A++l.I).length≤64:=rP 64 (lo:=1) h.nodup fun x hx=>by have :=h.known x hx;omega
theorem aFQ.lenR {l:Ls} (h:aFQ l):l.R.length≤64:=rP 64 (lo:=1) (h.asc.imp fun h=>by omega) fun x hx=>by have :=h.known x (h.sub x hx);omega
theorem aFQ.small {l:Ls} (h:aFQ l):jD l:=by
 have :=h.len;have :=h.lenR
 rw [List.length_append] at *
 exact⟨by omega,by omega,by omega⟩
theorem aFQ.notA {l:Ls} (h:aFQ l) {f:Int} (hf:f∈l.I):f∉l.A:=fun ha=>(List.nodup_append.1 h.nodup).2.2 f ha f hf rfl
theorem aDV {l:List Int} (h:l.Nodup)(x:Int):(wo l x).Nodup:=h.sublist zI
theorem aV2 {l:List Int} (h:l.Pairwise (·< ·))(x:Int):(wo l x).Pairwise (·< ·):=h.sublist zI
def sG(l:Ls)(f:Int):Ls×Int:=
 bif !iI l then(l,1) else bif !dM f then(l,2) else bif !sC l f then(l,4) else
 bif !decide (f∈l.R) then(⟨l.A,l.I,jY l.R (pP l.R f) f⟩,0) else bif decide (f∈l.I) then(⟨f::wo l.A f,wo l.I f,wo l.R f⟩,0) else(l,0)
end Go.Proofs.YtmhapcbjjpadnaaGreat
set_option maxRecDepth 40000
namespace Go.Proofs.YtmhapcbjjpadnaaGreat
open Go Go.Sk Go.RowKit
end Go.Proofs.YtmhapcbjjpadnaaGreat
set_option maxRecDepth 40000
namespace Go.Proofs.YtmhapcbjjpadnaaGreat
open Go Go.Sk Go.RowKit
structure ScS where
 I:List Int
 R:List Int
 v:List Int
structure ScB(l:Ls)(k:Nat)(s:ScS):Prop where
 kk:k≤l.I.length
 i:s.I.length+k≤l.I.length+l.I.length
 r:s.R.length≤l.R.length
 v:s.v.length+k≤l.I.length
end Go.Proofs.YtmhapcbjjpadnaaGreat
set_option maxRecDepth 40000
namespace Go.Proofs.YtmhapcbjjpadnaaGreat
open Go Go.Sk Go.RowKit Go.Shelf
theorem mM(b:Nat)(ty:TypeId):∀(vs:List Value) (o:Nat) (w:World) (arr:Array Value),w.heap[b]? =some (.cells arr ty (0,0))→
 (w.setCells b o vs).heap[b]? =some (.cells (wrote arr o vs) ty (0,0))∧(w.setCells b o vs).heap.size=w.heap.size∧∀j,j≠b→(w.setCells b o vs).heap[j]? =w.heap[j]?
 | [],_,_,_,h=>⟨h,rfl,fun _ _=>rfl⟩
 |v::r,o,w,arr,h=>by
  have hs:(w.setCell ⟨b,o,none⟩ v).heap[b]? =some (.cells (arr.setIfInBounds o v) ty (0,0)):=by
   unfold World.setCell
   dsimp only
   rw [zM,if_pos rfl,h]
   rfl
  have hz:(w.setCell ⟨b,o,none⟩ v).heap.size=w.heap.size:=by unfold World.setCell;dsimp only;rw [Array.size_modify]
  have ho:∀j,j≠b→(w.setCell ⟨b,o,none⟩ v).heap[j]? =w.heap[j]? :=fun j hj=>by
   unfold World.setCell
   dsimp only
   rw [zM,if_neg (fun e=>hj e.symm)]
  obtain⟨h1,h2,h3⟩:=mM b ty r (o+1) _ _ hs
  exact⟨h1,h2.trans hz,fun j hj=>(h3 j hj).trans (ho j hj)⟩
theorem aLB(l:List Int)(i:Nat)(x:Int)(hi:i≤l.length)(arr:Array Value)(hsz:l.length+1≤arr.size)(ha:∀(j:Nat) (u:Value),(cU l)[j]? =some u→arr[j]? =some u)(j:Nat)(u:Value)(hj:(cU (jY l i x))[j]? =some u):
 (wrote (wrote arr (i+1) ((cU l).drop i)) i [.int .i64 x])[j]? =some u:=by
 have hv:(cU l).length=l.length:=by simp [cU]
 have hd:((cU l).drop i).length=l.length-i:=by rw [List.length_drop,hv]
 rw [oC _ _ _ _ (by rw [lN];simp;omega),oC _ _ _ _ (by rw [hd];omega),hd]
 have hins:cU (jY l i x)=(cU l).take i++Value.int .i64 x::(cU l).drop i:=by simp [cU,jY]
 rw [hins,List.getElem?_append] at hj
 have ht:((cU l).take i).length=i:=by rw [zR,hv];omega
 rw [ht] at hj
 split at hj
 ·rename_i hlt
  rw [if_neg (by simp;omega),if_neg (by omega)]
  rw [List.getElem?_take,if_pos hlt] at hj
  exact ha j u hj
 ·rename_i hge
  by_cases he:j=i
  ·subst he
   rw [if_pos (by simp)]
   simpa using hj
  ·have hj':((cU l).drop i)[j- (i+1)]? =some u:=by
    rw [show j-i=(j- (i+1))+1 by omega,List.getElem?_cons_succ] at hj;exact hj
   obtain⟨hlt,-⟩:=List.getElem?_eq_some_iff.1 hj'
   rw [hd] at hlt
   rw [if_neg (by simp;omega),if_pos (by omega)]
   exact hj'
set_option maxRecDepth 20000 in
theorem bCP(l:List Int)(i:Nat)(x:Int)(c:Nat)(hi:i≤l.length)(hc:l.length+1≤c)(hc2:c≤9223372036854775807):
 aQ Tryz.prog 287 [.row 1 (aJ l),.row 1 [[.int .i64 x]]] [.slk 0 0 l.length c,.int .i64 i,.sl 1 0 1] (.sl 0 0 (l.length+1)) [.row 1 (aJ (jY l i x)),.row 1 [[.int .i64 x]]]:=by
 intro U σ w cargs hR hn hargs
 obtain⟨c0,c1,c2,rfl⟩:∃a b c,cargs= #[a,b,c]:=by
  rcases cargs with ⟨L⟩
  match L,hn with
  | [a,b,c],_=>exact⟨a,b,c,rfl⟩
 have a0:=hargs 0 _ c0 rfl rfl
 have a1:=hargs 1 _ c1 rfl rfl
 have a2:=hargs 2 _ c2 rfl rfl
 generalize hln:l.length=ln at a0 hc⊢
 cases a0 with
 |slk0 h=>omega
 | @slk _ _ _ _ _ b es cap a hs0 hle0 ha0 hcc=>
 subst hln
 cases a1 with
 |int=>
 cases a2 with
 | @sl _ _ _ _ vb es' vcap va hs hle ha=>
 rw [Nat.sub_zero] at hcc
 subst hcc
 have hob0:=hR.obj 0 (.row 1 (aJ l)) rfl
 rw [hs0] at hob0
 obtain⟨-,rfl,hcap0,arr0,ty0,hblk0,hasz0,hcells0⟩:=hob0
 have hob:=hR.obj 1 (.row 1 [[.int .i64 x]]) rfl
 rw [hs] at hob
 obtain⟨-,rfl,-,arr,ty,hblk,hasz,hcells⟩:=hob
 obtain⟨xv,hx1,-,hx2⟩:=hcells 0 _ 0 _ rfl rfl
 cases hx2 with
 |int=>
 obtain rfl:=ha (by omega)
 obtain rfl:=ha0 (by omega)
 have hne:vb≠b:=by
  rintro rfl
  have :=hR.inj 0 1 _ _ vb _ _ _ _ rfl rfl hs0 hs
  cases this
 rw [Nat.mul_one] at hasz hasz0
 have hvs:∀(j:Nat) (v:Value),([Value.int .i64 x])[j]? =some v→w.cell? ⟨vb,0*1+j,none⟩=some v:=fun j v hj=>by
  cases j with
  |zero=>
   simp only [zK,Option.some.injEq] at hj
   subst hj
   rw [World.cell?,hblk]
   simpa using hx1
  |succ j=>simp at hj
 have harr:∀(j:Nat) (u:Value),(cU l)[j]? =some u→arr0[j]? =some u:=fun j u hj=>by
  simp only [cU,zO,zL] at hj
  obtain⟨y,hy,rfl⟩:=hj
  obtain⟨v,q1,-,q3⟩:=hcells0 j [.int .i64 y] 0 (.int .i64 y) (by simp [aJ,hy]) rfl
  cases q3
  simpa using q1
 have hcs:∀(j:Nat) (v:Value),(cU l)[j]? =some v→w.cell? ⟨b,0*1+j,none⟩=some v:=fun j v hj=>by
  rw [World.cell?,hblk0]
  simpa using harr j v hj
 have hsp:∀j,j<l.length+1→(w.cell? ⟨b,0*1+j,none⟩).isSome=true:=fun j hj=>by
  rw [World.cell?,hblk0]
  simp only [zP,zQ]
  rw [Array.getElem?_eq_getElem (by omega)];rfl
 have hfz:∀o,w.frozen? ⟨b,o,none⟩=false:=fun o=>by
  rw [World.frozen?,hblk0];simp [mkF]
 have hfv:∀o,w.frozen? ⟨vb,o,none⟩=false:=fun o=>by
  rw [World.frozen?,hblk];simp [mkF]
 have one:∀v∈cU l,v.oneCell'=true:=fun v hv=>by
  simp only [cU,List.mem_map] at hv;obtain⟨y,-,rfl⟩:=hv;rfl
 have fin:∀(w':World),w'.os=w.os→w'.tape=w.tape→w'.output=w.output→w'.heap.size=w.heap.size→(∀j,j≠b→w'.heap[j]? =w.heap[j]?)→w'.heap[b]? =some (.cells (wrote (wrote arr0 (i+1) ((cU l).drop i)) i [.int .i64 x]) ty0.1 (0,0))→
  ∃cv σ',(Ending.returned (.slice (some ⟨b,0*1,none⟩) (l.length+1) c))=.returned cv∧aS U σ' (aL 0 [.row 1 (aJ (jY l i x)),.row 1 [[.int .i64 x]]]) w' 2∧VR (Own U σ' (aL 0 [.row 1 (aJ (jY l i x)),.row 1 [[.int .i64 x]]])) w' σ' (.sl 0 0 (l.length+1)) cv∧
   bL σ (aL 0 [.row 1 (aJ l),.row 1 [[.int .i64 x]]]) w 2 σ' (aL 0 [.row 1 (aJ (jY l i x)),.row 1 [[.int .i64 x]]]) w' 2:=fun w' e1 e2 e3 e4 e5 e6=>by
  obtain⟨g,r⟩:=hR.write (k:=0) (o0:=.row 1 (aJ l)) (o:=.row 1 (aJ (jY l i x))) rfl hs0 e1 e2 e3 e4 e5 (fun g=>by
   refine⟨fun y hy=>?_,rfl,⟨by rw [aB,qN];omega,hcap0.2⟩,_,ty0,e6,by rw [lN,lN];omega,fun j y k u hy hu=>?_⟩
   ·simp only [aJ,List.mem_map] at hy;obtain⟨z,-,rfl⟩:=hy;rfl
   ·simp only [aJ,zO,zL] at hy
    obtain⟨z,hz,rfl⟩:=hy
    cases k with
    |succ k=>simp at hu
    |zero=>
     simp only [zK,Option.some.injEq] at hu
     subst hu
     refine⟨.int .i64 z,?_,rfl,.int _ _⟩
     rw [Nat.mul_one,Nat.add_zero]
     exact aLB l i x hi arr0 (by omega) harr j _ (by simp [cU,hz]))
  exact⟨_,σ,rfl,r,.sl hs0 (by omega) (fun _=>rfl),g⟩
 by_cases he:i=l.length
 ·subst he
  refine(Any2.slices_Insert_int_end_room aGG b (0*1) l.length c vb (0*1) 1 (vcap-0) [.int .i64 x] w (by omega) (by omega) hc2 rfl (fun j hj=>by rw [Nat.add_assoc];exact hsp _ (by omega)) (fun j _=>hfz _) hvs (by simp [aXD])).mono ?_
  rintro e w' ⟨rfl,rfl⟩
  obtain⟨h1,h2,h3⟩:=mM b ty0.1 [.int .i64 x] (0*1+l.length) w arr0 hblk0
  obtain⟨o1,o2,o3⟩:=iH b [.int .i64 x] (0*1+l.length) w
  refine fin _ o1 o2 o3 h2 h3 ?_
  rw [h1,zP,zQ,List.drop_of_length_le (by simp [cU])]
  rfl
 ·refine(Any2.slices_Insert_int_shift aGG b (0*1) l.length c i vb (0*1) 1 (vcap-0) (cU l) [.int .i64 x] w (by omega) (by omega) (by omega) hc2 hne (by simp [cU]) rfl hcs hsp (fun j _=>hfz _) hvs one (by simp [aXD]) ty.1 ty0.1 arr.size arr0.size
   (by rw [World.shape?,hblk]) (by rw [World.shape?,hblk0]) (by omega) (hfv _) (hfv _)).mono ?_
  rintro e w' ⟨rfl,rfl⟩
  have hb0:w.drew.heap[b]? =some (.cells arr0 ty0.1 (0,0)):=hblk0
  obtain⟨h1,h2,h3⟩:=mM b ty0.1 ((cU l).drop i) (0*1+(i+1)) w.drew arr0 hb0
  obtain⟨o1,o2,o3⟩:=iH b ((cU l).drop i) (0*1+(i+1)) w.drew
  obtain⟨h1',h2',h3'⟩:=mM b ty0.1 [.int .i64 x] (0*1+i) _ _ h1
  obtain⟨o1',o2',o3'⟩:=iH b [.int .i64 x] (0*1+i) (w.drew.setCells b (0*1+(i+1)) ((cU l).drop i))
  refine fin _ (o1'.trans o1) (o2'.trans o2) (o3'.trans o3) (h2'.trans h2) (fun j hj=>(h3' j hj).trans (h3 j hj)) ?_
  rw [h1']
  simp only [zP,zQ]
end Go.Proofs.YtmhapcbjjpadnaaGreat
set_option maxRecDepth 40000
namespace Go.Proofs.YtmhapcbjjpadnaaGreat
open Go Go.Sk Go.RowKit
set_option maxRecDepth 20000 in
set_option maxHeartbeats 1000000 in
theorem aZV(l:Ls)(f:Int)(hl:jD l):aQ Tryz.prog 201 [] [.agg l.c,.int .i64 f] (.tup [.agg (sG l f).1.c,.int .i64 (sG l f).2]) []:=by
 have h1:=hl.a;have h2:=hl.i;have h3:=hl.r
 refine aF (ob0:= []) [.v 35,.r 49] Tryz.func201 rfl rfl rfl rfl ?_
 generalize hk:sG l f=q
 rw [sG] at hk
 refine Wk ?_
 refine .inr ⟨fun _=>⟨[],_,_,_,bCO l hl,trivial,rfl,rfl,rfl,?_⟩,(by intro h;cases h)⟩
 refine dF (aTL l f hl) ?_
 refine aI (fun c1=>?_) (fun c1=>?_)<;> try simp only [zD,zC,zE,zA,zF] at c1
 ·rw [←aB5 (fun e=>(l,e)) _ c1] at hk
  subst hk
  refine Wk ?_
  refine⟨[],trivial,rfl,trivial,rfl,?_⟩
  try subst hk
  repeat' (first |exact trivial |rfl |exact .inl rfl |exact .inr rfl |exact id |exact(fun h=>Bool.noConfusion h)|refine And.intro ?_ ?_)
  ·show 0+l.R.length≤_
   rw [aB];omega
  ·exact eF (aB _)
 obtain⟨e1,e2⟩:=aK5 c1
 have hP:=(gQ l).1 e1
 rw [e1,e2] at hk
 simp only [zN,cond_false] at hk
 refine dF (aTM l f hl) ?_
 refine aI (fun c2=>?_) (fun c2=>?_)<;> try simp only [zD,zC,zE,zA,zF] at c2
 ·rw [show(!sC l f)=true by rw [c2];rfl,cond_true] at hk
  subst hk
  refine Wk ?_
  refine⟨[],trivial,rfl,trivial,rfl,?_⟩
  try subst hk
  repeat' (first |exact trivial |rfl |exact .inl rfl |exact .inr rfl |exact id |exact(fun h=>Bool.noConfusion h)|refine And.intro ?_ ?_)
  ·show 0+l.R.length≤_
   rw [aB];omega
  ·exact eF (aB _)
 rw [show(!sC l f)=false by rw [c2];rfl,cond_false] at hk
 have key:aQ Tryz.prog 286 [] [.lst 1 false (((aJ l.R).drop 0).take l.R.length),.int .i64 f] (.tup [.int .i64 (pP l.R f),.bool (aCR l.R f)]) []:=by rw [eF (aB l.R)];exact bA7 l.R false f (by omega) hP.asc
 have hhit:=aGB hP.asc f
 have hat:=aFT l.R f
 refine Wk ?_
 refine .inl ⟨_,fun _=>⟨?_,key⟩,.inr rfl,?_⟩
 ·intro v hv
  have hv:v∈ [V.sl 2 0 l.R.length,V.int .i64 f]:=hv
  rcases List.mem_cons.1 hv with rfl |hv
  ·show 0+l.R.length≤(aJ l.R).length
   rw [aB];omega
  ·obtain rfl:=List.mem_singleton.1 hv
   exact trivial
 refine Wk ?_
 refine aI (fun c3=>?_) (fun c3=>?_)<;> try simp only [zD,zC,zE,zA,zF] at c3
 ·have c3:f∉l.R:=by rw [←hhit];simpa using c3
  rw [show(!decide (f∈l.R))=true by simpa using c3,cond_true] at hk
  refine Wk ?_
  refine⟨Option Nat,fun |none=>True |some c=>l.R.length+1≤c∧c≤9223372036854775807,
   fun |none=>⟨[(1,⟨[],true,.int .i64 f⟩),(4,⟨[],true,.ptr 0 0 0⟩),(6,⟨[],true,.ptr 1 0 0⟩),(8,⟨[],true,.int .i64 (pP l.R f:Int)⟩),(35,⟨[],true,.lst 1 true (aJ l.R)⟩)],[(0,.box [.lst 0 true [],.lst 0 true [],.lst 0 true []]),(1,.box [.lst 1 false (aJ l.A),.lst 1 false (aJ l.I),.lst 1 false (aJ l.R)])],2⟩
       |some c=>⟨[(1,⟨[],true,.int .i64 f⟩),(4,⟨[],true,.ptr 0 0 0⟩),(6,⟨[],true,.ptr 1 0 0⟩),(8,⟨[],true,.int .i64 (pP l.R f:Int)⟩),(35,⟨[],true,.slk 2 0 l.R.length c⟩)],[(0,.box [.lst 0 true [],.lst 0 true [],.lst 0 true []]),(1,.box [.lst 1 false (aJ l.A),.lst 1 false (aJ l.I),.sl 2 0 l.R.length]),(2,.row 1 (aJ l.R))],3⟩,?_,fun x hx=>?_⟩
  ·refine Wk ?_
   intro c hc hc2
   by_cases hcn:c=l.R.length
   ·subst hcn
    refine⟨none,trivial,?_⟩
    refine cO [some 1,some 18] rfl rfl ?_ rfl ?_ rfl ?_
    repeat' (first |exact trivial |rfl |exact .inl rfl |exact .inr rfl |exact id |exact(fun h=>Bool.noConfusion h)|refine And.intro ?_ ?_)
    ·show 0+l.R.length≤_
     rw [aB];omega
    ·exact eF (aB _)
    ·exact fun _=>rfl
    ·show 0+l.R.length≤_
     rw [aB];omega
    ·exact eF (aB _)
   refine⟨some c,⟨by omega,hc2⟩,?_⟩
   exact Vw [some 1,some 18,some 2]
  cases x with
  |none=>
   refine Wk ?_
   refine .inr ⟨fun _=>⟨[2],_,_,_,bA8 l.R (pP l.R f) f hat (by omega),⟨rfl,trivial⟩,rfl,rfl,rfl,?_⟩,(by intro h;cases h)⟩
   subst hk
   refine Wk ?_
   try subst hk
   exact Lf
  |some c=>
   obtain⟨x1,x2⟩:=hx
   refine Wk ?_
   refine .inr ⟨fun _=>⟨[2,3],_,_,_,bCP l.R (pP l.R f) f c hat x1 x2,⟨rfl,rfl,trivial⟩,rfl,rfl,rfl,?_⟩,(by intro h;cases h)⟩
   subst hk
   refine Wk ?_
   refine⟨[],trivial,rfl,trivial,rfl,?_⟩
   try subst hk
   repeat' (first |exact trivial |rfl |exact .inl rfl |exact .inr rfl |exact id |exact(fun h=>Bool.noConfusion h)|refine And.intro ?_ ?_)
   ·show 0+(l.R.length+1)≤_
    rw [aB,qN];omega
   ·exact eF (by rw [aB,qN])
 have c3:f∈l.R:=by rw [←hhit];simpa using c3
 rw [show(!decide (f∈l.R))=false by simpa using c3,cond_false] at hk
 refine dF (aTG l.I false f (by omega)) ?_
 refine aI (fun c4=>?_) (fun c4=>?_)<;> try simp only [zD,zC,zE,zA,zF] at c4
 ·rw [c4,cond_true] at hk
  subst hk
  refine Wk ?_
  refine⟨Unit,fun _=>True,fun _=>⟨[(1,⟨[],true,.int .i64 f⟩),(4,⟨[],true,.ptr 0 0 0⟩),(6,⟨[],true,.ptr 1 0 0⟩)],[(0,.box [.lst 0 true [],.lst 0 true [],.lst 0 true []]),(1,.box [.lst 1 false (aJ l.A),.lst 1 false (aJ (wo l.I f)),.lst 1 false (aJ l.R)])],2⟩,?_,fun _ _=>?_⟩
  ·refine dF (aF8 l.I false f (by omega)) ?_
   refine⟨(),trivial,?_⟩
   refine cO [some 1,some 18] rfl rfl ?_ rfl ?_ rfl ?_
   repeat' (first |exact trivial |rfl |exact .inl rfl |exact .inr rfl |exact id |exact(fun h=>Bool.noConfusion h)|refine And.intro ?_ ?_)
   ·show 0+l.R.length≤_
    rw [aB];omega
   ·exact eF (aB _)
  refine Wk2 (aTN l.A false f (by omega)) (aF8 l.R false f (by omega)) ?_
  try subst hk
  exact Lf
 rw [c4,cond_false] at hk
 subst hk
 refine Wk ?_
 refine⟨[],trivial,rfl,trivial,rfl,?_⟩
 try subst hk
 repeat' (first |exact trivial |rfl |exact .inl rfl |exact .inr rfl |exact id |exact(fun h=>Bool.noConfusion h)|refine And.intro ?_ ?_)
 ·show 0+l.R.length≤_
  rw [aB];omega
 ·exact eF (aB _)
end Go.Proofs.YtmhapcbjjpadnaaGreat
