/- Caches. -/
import Derived.Test.YtmhapcbjjpadnaaGreatG3m
set_option linter.unusedSimpArgs false
set_option linter.unusedVariables false
open Bool renaming or_eq_false_iff→zC,and_eq_true→zF,not_true→zK
open Int renaming toNat_natCast→zL
open List renaming getElem_of_mem→zA,getElem_mem→zD,getElem?_eq_getElem→zE,getElem_cons_zero→zG,getElem_cons_succ→zH,mem_of_mem_drop→zI,takeWhile_cons→zJ,drop_sublist→zM,getElem_drop→zN,getElem?_map→zO,length_cons→zP,length_drop→zQ
set_option linter.constructorNameAsVariable false
set_option maxRecDepth 40000
namespace Go.Proofs.YtmhapcbjjpadnaaGreat
open Go Go.Sk Go.RowKit
theorem aRE:∀(l:List Int) (x:Int) (j:Nat),j<pP l x→l.getD j 0<x
 | [],_,j,h=>by simp [pP] at h
 |y::r,x,j,h=>by
  simp only [pP,zJ] at h
  split at h
  ·rename_i hy
   cases j with
   |zero=>simpa using hy
   |succ j=>simpa using aRE r x j (by simpa [pP] using h)
  ·simp at h
theorem aRD:∀(l:List Int) (x:Int),pP l x<l.length→x≤l.getD (pP l x) 0
 | [],_,h=>by simp [pP] at h
 |y::r,x,h=>by
  simp only [pP,zJ] at h⊢
  split
  ·rename_i hy
   rw [if_pos hy] at h
   simpa [pP] using aRD r x (by simpa [pP] using h)
  ·rename_i hy
   simpa using hy
theorem jK {l:List Int} (hs:l.Pairwise (·< ·))(i j:Nat)(hij:i<j)(hj:j<l.length):l.getD i 0<l.getD j 0:=by
 rw [←fV l i (by omega),←fV l j hj]
 exact List.pairwise_iff_getElem.1 hs i j (by omega) hj hij
theorem bBU {l:List Int} (hs:l.Pairwise (·< ·)) {x:Int} {k:Nat} (hk:k<l.length)(h:l.getD k 0=x):aCR l x=true:=by
 have :pP l x=k:=aKL l x k (by omega) (fun j hj=>by rw [←h];exact jK hs j k hj hk) (fun j hj hj'=>by
  by_cases e:j=k
  ·rw [e,h];exact Int.le_refl _
  ·have :=jK hs k j (by omega) hj';omega)
 rw [aCR,this,h,show decide (k<l.length)=true by simpa using hk]
 simp
theorem aDL(L:List Int)(k:Nat)(h:k<L.length):(aJ L).getD ((k:Int)).toNat []=[.int .i64 (L.getD k 0)]:=by
 rw [zL,dJ L k h,fV L k h]
end Go.Proofs.YtmhapcbjjpadnaaGreat
set_option maxRecDepth 40000
namespace Go.Proofs.YtmhapcbjjpadnaaGreat
open Go Go.Sk Go.RowKit
structure jC(lo hi:Int)(l:List Int):Prop where
 asc:l.Pairwise (·< ·)
 inn:∀x∈l,lo≤x∧x<hi
theorem aHM(lo hi:Int)(l:List Int):vG lo hi l l.length=true↔jC lo hi l:=by
 constructor
 ·intro h
  refine⟨aEE lo hi l h,fun x hx=>?_⟩
  obtain⟨i,hi',rfl⟩:=zA hx
  have :=rI lo hi l l.length i hi' h
  simp only [mC,zC,decide_eq_false_iff_not] at this
  rw [fV l i hi']
  omega
 ·intro h
  have :∀n,n≤l.length→vG lo hi l n=true:=by
   intro n
   induction n with
   |zero=>intro _;rfl
   |succ n ih=>
    intro hn
    have hlt:n<l.length:=by omega
    simp only [vG,zF,Bool.not_eq_true',ih (by omega),true_and]
    have hin:=h.inn l[n] (zD hlt)
    rw [fV l n hlt] at hin
    have h3:(decide (0< (n:Int))&&decide (l.getD n 0≤l.getD (n-1) 0))=false:=by
     by_cases e:n=0
     ·simp [e]
     ·have :=jK h.asc (n-1) n (by omega) hlt
      rw [show decide (l.getD n 0≤l.getD (n-1) 0)=false from by simp only [decide_eq_false_iff_not];omega,Bool.and_false]
    simp only [mC,zC,decide_eq_false_iff_not,h3,and_true]
    omega
  exact this _ (Nat.le_refl _)
theorem jC.len:∀ {l:List Int} {lo hi:Int},jC lo hi l→lo≤hi→(l.length:Int)≤hi-lo
 | [],_,_,_,h=>by simp;omega
 |x::r,lo,hi,h,_=>by
  have hx:=h.inn x (by simp)
  have hp:=List.pairwise_cons.1 h.asc
  have :=jC.len (l:=r) (lo:=x+1) (hi:=hi) ⟨hp.2,fun y hy=>⟨by have :=hp.1 y hy;omega,(h.inn y (by simp [hy])).2⟩⟩ (by omega)
  simp only [zP]
  omega
theorem jC.drop {lo hi:Int} {l:List Int} (h:jC lo hi l)(n:Nat):jC lo hi (l.drop n):=
 ⟨h.asc.sublist (zM n l),fun x hx=>h.inn x (zI hx)⟩
theorem aD2 {l:List Int} {i:Nat} {x y:Int} :y∈jY l i x↔y=x∨y∈l:=by
 rw [jY,List.mem_append,List.mem_cons]
 constructor
 ·rintro (h |h |h)
  ·exact .inr (List.mem_of_mem_take h)
  ·exact .inl h
  ·exact .inr (zI h)
 ·rintro (h |h)
  ·exact .inr (.inl h)
  ·rw [←List.take_append_drop i l,List.mem_append] at h
   rcases h with h |h
   ·exact .inl h
   ·exact .inr (.inr h)
theorem aGB {l:List Int} (hs:l.Pairwise (·< ·))(x:Int):aCR l x=true↔x∈l:=by
 constructor
 ·intro h
  rw [aCR] at h
  by_cases e:pP l x<l.length
  ·rw [show decide (pP l x<l.length)=true by simpa using e,cond_true] at h
   have :l.getD (pP l x) 0=x:=by simpa using h
   rw [←this,←fV l _ e]
   exact zD e
  ·rw [show decide (pP l x<l.length)=false by simpa using e] at h;cases h
 ·intro h
  obtain⟨i,hi,rfl⟩:=zA h
  exact bBU hs hi (fV l i hi).symm
theorem jC.ins {lo hi:Int} {l:List Int} (h:jC lo hi l) {f:Int} (hf:lo≤f∧f<hi)(hn:f∉l):jC lo hi (jY l (pP l f) f):=by
 refine⟨?_,fun x hx=>?_⟩
 ·have hle:=aFT l f
  rw [jY,List.pairwise_append]
  refine⟨h.asc.sublist (List.take_sublist _ l),List.pairwise_cons.2 ⟨fun y hy=>?_,h.asc.sublist (zM _ l)⟩,fun a ha b hb=>?_⟩
  ·obtain⟨j,hj,rfl⟩:=zA hy
   rw [zQ] at hj
   rw [zN,fV l _ (by omega)]
   have hlt:pP l f<l.length:=by omega
   have h1:=aRD l f hlt
   have h2:l.getD (pP l f+j) 0≠f:=fun e=>hn (by rw [←e,←fV l _ (by omega)];exact zD _)
   by_cases e:j=0
   ·subst e;rw [Nat.add_zero] at h2⊢;omega
   ·have :=jK h.asc (pP l f) (pP l f+j) (by omega) (by omega);omega
  ·obtain⟨j,hj,rfl⟩:=zA ha
   rw [List.length_take] at hj
   have hlt:l[j]'(by omega)<f:=by rw [fV l j (by omega)];exact aRE l f j (by omega)
   rw [List.getElem_take]
   rcases List.mem_cons.1 hb with rfl |hb
   ·exact hlt
   ·obtain⟨k,hk,rfl⟩:=zA hb
    rw [zQ] at hk
    rw [zN,fV l j (by omega),fV l _ (by omega)]
    exact jK h.asc _ _ (by omega) (by omega)
 ·rcases aD2.1 hx with rfl |hx
  ·exact hf
  ·exact h.inn x hx
structure RZ(f:Int)(z:Zn):Prop where
 first :z.first=f
 size:1≤z.size∧z.size≤64
 stop:f+z.size≤65
 marks:0≤z.min∧z.min≤z.low∧z.low≤z.high∧z.high≤z.size
 free:jC f (f+z.size) z.free
theorem aA2 {z:Zn} {f:Int} (hf:1≤f∧f≤65):lF z f=true↔RZ f z:=by
 constructor
 ·intro h
  obtain⟨g,h1,h2⟩:=pG hf h
  have g2:=g.stop
  rw [h1] at g2
  refine⟨h1,g.size,g2,g.marks,?_⟩
  have :=(aHM _ _ _).1 g.asc
  rwa [h1] at this
 ·intro h
  have h1:=h.first
  have h2:=h.size
  have h3:=h.stop
  have h4:=h.marks
  have he:sV z=f+z.size:=by rw [sV,aY (by omega) (by omega)];omega
  have a1:oT z f=false:=by
   simp only [oT,zC,decide_eq_false_iff_not,bne_eq_false_iff_eq];omega
  have a2:oV z=false:=by
   simp only [oV,zC,decide_eq_false_iff_not];omega
  rw [lF,a1,a2,cond_false,cond_false,he,h1]
  exact(aHM _ _ _).2 h.free
def rZ:Int→List Zn→Prop
 |_,[]=>True
 |f,z::r=>RZ f z∧rZ (f+z.size) r
theorem aFZ:∀(l:List Zn) (f:Int),1≤f∧f≤65→(aC8 f l=true↔rZ f l)
 | [],_,_=>by simp [aC8,rZ]
 |z::r,f,hf=>by
  simp only [aC8,rZ,zF]
  rw [aA2 hf]
  constructor
  ·rintro ⟨h1,h2⟩
   have e:=(pG hf ((aA2 hf).2 h1)).2.2
   have :=h1.size;have :=h1.stop
   rw [e] at h2
   exact⟨h1,(aFZ r _ (by omega)).1 h2⟩
  ·rintro ⟨h1,h2⟩
   have e:=(pG hf ((aA2 hf).2 h1)).2.2
   have :=h1.size;have :=h1.stop
   rw [e]
   exact⟨h1,(aFZ r _ (by omega)).2 h2⟩
theorem dH(l:List Zn):bH l=true↔rZ 1 l∧l≠ []:=by
 rw [bH,zF,aFZ l 1 (by decide)]
 refine and_congr Iff.rfl ?_
 cases l <;> simp
theorem rZ.len:∀ {l:List Zn} {f:Int},rZ f l→f≤65→f+l.length≤65
 | [],f,_,h=>by simpa using h
 |z::r,f,h,_=>by
  have :=h.1.size;have :=h.1.stop
  have :=rZ.len h.2 (by omega)
  simp only [zP];omega
theorem rZ.get:∀ {l:List Zn} {f:Int},rZ f l→∀(i:Nat) (h:i<l.length),RZ l[i].first l[i]∧f≤l[i].first
 |z::r,f,h,0,_=>by simp only [zG];rw [h.1.first];exact⟨h.1,Int.le_refl _⟩
 |z::r,f,h,i+1,hi=>by
  have a1:=rZ.get h.2 i (by simpa using hi)
  have a2:=h.1.size
  simp only [zH]
  exact⟨a1.1,by omega⟩
theorem rZ.set:∀ {l:List Zn} {f:Int},rZ f l→∀(i:Nat) (h:i<l.length) (z:Zn),RZ l[i].first z→z.size=l[i].size→rZ f (l.set i z)
 |y::r,f,h,0,_,z,hz,hs=>by
  simp only [zG] at hz hs
  rw [h.1.first] at hz
  simp only [List.set_cons_zero,rZ]
  rw [hs]
  exact⟨hz,h.2⟩
 |y::r,f,h,i+1,hi,z,hz,hs=>by
  simp only [zH] at hz hs
  simp only [List.set_cons_succ,rZ]
  exact⟨h.1,rZ.set h.2 i (by simpa using hi) z hz hs⟩
theorem qE {l:List Zn} (h:bH l=true):kG l:=by
 have hc:=(dH l).1 h
 refine⟨by have :=hc.1.len (by decide);omega,fun z hz=>?_⟩
 obtain⟨i,hi,rfl⟩:=zA hz
 obtain⟨g,-⟩:=hc.1.get i hi
 have :=g.free.len (by have :=g.size;omega)
 have :=g.size
 omega
theorem aEH {l:List Zn} (h:bH l=true):1≤l.length∧l.length≤64:=by
 have hc:=(dH l).1 h
 have :=hc.1.len (by decide)
 have :=List.length_pos_iff.2 hc.2
 omega
theorem RZ.ex {f:Int} {z:Zn} :RZ f (fH z)↔RZ f z:=⟨fun h=>⟨h.1,h.2,h.3,h.4,h.5⟩,fun h=>⟨h.1,h.2,h.3,h.4,h.5⟩⟩
theorem rZ.ex:∀ {l:List Zn} {f:Int},rZ f (l.map fH)↔rZ f l
 | [],_=>Iff.rfl
 |z::r,f=>and_congr RZ.ex (rZ.ex (l:=r))
theorem aHS(l:List Zn):bH (l.map fH)=bH l:=by
 rw [Bool.eq_iff_iff,dH,dH,rZ.ex]
 simp
def eX(a b:List Zn):Prop:=a.map fH=b.map fH
theorem eX.refl(a:List Zn):eX a a:=rfl
theorem eX.ex(a:List Zn):eX (a.map fH) a:=by rw [eX,List.map_map];rfl
theorem eX.trans {a b c:List Zn} (h:eX a b)(k:eX b c):eX a c:=Eq.trans h k
theorem eX.len {a b:List Zn} (h:eX a b):a.length=b.length:=by have :=congrArg List.length h;simpa using this
theorem eX.check {a b:List Zn} (h:eX a b):bH a=bH b:=by rw [←aHS a,←aHS b,show a.map fH=b.map fH from h]
theorem eX.get {a b:List Zn} (h:eX a b)(i:Nat)(hi:i<a.length):fH a[i]=fH (b[i]'(by rw [←h.len];exact hi)):=by
 have h1:(a.map fH)[i]? =(b.map fH)[i]? :=by rw [show a.map fH=b.map fH from h]
 have hb:i<b.length:=by rw [←h.len];exact hi
 rw [zO,zO,zE hi,zE hb] at h1
 simpa using h1
theorem eX.set {a b:List Zn} (h:eX a b)(i:Nat) {x y:Zn} (e:fH x=fH y):eX (a.set i x) (b.set i y):=by
 rw [eX,List.map_set,List.map_set,e,show a.map fH=b.map fH from h]
theorem aB0 {l:List Zn} {u:Bool} :∀ {n i:Nat},eM l u n=some i→i<n∧nF u (l.getD i fL)=true∧∀j,i<j→j<n→nF u (l.getD j fL)=false
 |0,i,h=>by cases h
 |n+1,i,h=>by
  simp only [eM] at h
  cases hz:nF u (l.getD n fL) with
  |true=>
   rw [hz] at h
   obtain rfl:n=i:=Option.some.inj h
   exact⟨by omega,hz,fun j h1 h2=>by omega⟩
  |false=>
   rw [hz] at h
   obtain⟨h1,h2,h3⟩:=aB0 (n:=n) h
   refine⟨by omega,h2,fun j hj hj'=>?_⟩
   by_cases e:j=n
   ·rw [e];exact hz
   ·exact h3 j hj (by omega)
theorem aAZ {l:List Zn} {u:Bool} :∀ {n:Nat},eM l u n=none→∀j,j<n→nF u (l.getD j fL)=false
 |0,_,j,hj=>by omega
 |n+1,h,j,hj=>by
  simp only [eM] at h
  cases hz:nF u (l.getD n fL) with
  |true=>rw [hz] at h;cases h
  |false=>
   rw [hz] at h
   by_cases e:j=n
   ·rw [e];exact hz
   ·exact aAZ (n:=n) h j (by omega)
theorem RZ.taken {f:Int} {z:Zn} (h:RZ f z):RZ f (aM4 z):=⟨h.first,h.size,h.stop,h.marks,h.free.drop 1⟩
theorem RZ.gave {f:Int} {z:Zn} (h:RZ f z) {x:Int} (hx:f≤x∧x<f+z.size)(hn:x∉z.free):RZ f (aIF z x):=⟨h.first,h.size,h.stop,h.marks,h.free.ins hx hn⟩
inductive aMK(base l:List Zn)(p:Int)(u:Bool):List Zn×Int×Int→Prop
 |range (h:p<0∨(l.length:Int)≤p):aMK base l p u (base,0,2)
 |full (h0:0≤p) (h1:p<l.length) (h:∀j:Nat,(j:Int)≤p→nF u (l.getD j fL)=false):aMK base l p u (base,0,3)
 |ok (h0:0≤p) (h1:p<l.length) (i:Nat) (hi:i<l.length) (hp:(i:Int)≤p) (hz:nF u l[i]=true) (hn:∀j:Nat,i<j→(j:Int)≤p→nF u (l.getD j fL)=false):
  aMK base l p u (base.set i (aM4 l[i]),l[i].free.getD 0 0,0)
theorem aOK {base l:List Zn} {p:Int} {u:Bool} (h:bH l=true):aMK base l p u (bX base l p u):=by
 rw [bX,h,zK,cond_false]
 by_cases hr:p<0∨(l.length:Int)≤p
 ·rw [show(decide (p<0)||decide ((l.length:Int)≤p))=true by simpa using hr,cond_true]
  exact .range hr
 ·rw [show(decide (p<0)||decide ((l.length:Int)≤p))=false by simpa using hr,cond_false]
  cases ht:eM l u (p+1).toNat with
  |none=>exact .full (by omega) (by omega) fun j hj=>aAZ ht j (by omega)
  |some i=>
   obtain⟨h1,h2,h3⟩:=aB0 ht
   have hi:i<l.length:=by omega
   rw [aCN l i hi] at h2
   simp only [aCN l i hi]
   exact .ok (by omega) (by omega) i hi (by omega) h2 fun j h4 h5=>h3 j h4 (by omega)
theorem eX.set_check {base l:List Zn} (hs:eX base l)(h:bH l=true)(i:Nat)(hi:i<l.length) {z:Zn} (hz:RZ l[i].first z)(hsz:z.size=l[i].size):bH (base.set i z)=true:=by
 rw [(hs.set i (x:=z) (y:=z) rfl).check,dH]
 have hc:=(dH l).1 h
 exact⟨hc.1.set i hi z hz hsz,by have :=aEH h;intro e;have :=congrArg List.length e;simp at this;exact hc.2 this⟩
theorem aJV {base l:List Zn} {p:Int} {u:Bool} (hs:eX base l)(h:bH l=true):bH (bX base l p u).1=true:=by
 have hc:=(dH l).1 h
 have key:=aOK (base:=base) (p:=p) (u:=u) h
 generalize bX base l p u=q at key
 cases key with
 |range _=>rw [hs.check];exact h
 |full _ _ _=>rw [hs.check];exact h
 |ok _ _ i hi _ _ _=>exact hs.set_check h i hi (hc.1.get i hi).1.taken rfl
theorem aQQ {base l:List Zn} {p:Int} {u:Bool} :(bX base l p u).1.length=base.length:=by
 rw [bX]
 repeat(first | (cases(bH l)<;> simp only [zK,Bool.not_false,cond_true,cond_false])| (cases(decide (p<0)||decide ((l.length:Int)≤p))<;> simp only [cond_true,cond_false])|rfl)
 cases eM l u (p+1).toNat <;> simp
theorem aFO {base base' l:List Zn} {p:Int} {u:Bool} (hs:eX base base'):eX (bX base l p u).1 (bX base' l p u).1∧(bX base l p u).2=(bX base' l p u).2:=by
 rw [bX,bX]
 cases bH l with
 |false=>exact⟨hs,rfl⟩
 |true=>
  cases decide (p<0)||decide ((l.length:Int)≤p) with
  |true=>exact⟨hs,rfl⟩
  |false=>
   cases ht:eM l u (p+1).toNat with
   |none=>exact⟨hs,rfl⟩
   |some i=>exact⟨hs.set i rfl,rfl⟩
inductive aMG(base l:List Zn)(f:Int):List Zn×Int→Prop
 |range (h:∀z∈l,¬(z.first≤f∧f<z.first+z.size)):aMG base l f (base,2)
 |free (i:Nat) (hi:i<l.length) (hf:l[i].first≤f∧f<l[i].first+l[i].size) (hm:f∈l[i].free):aMG base l f (base,5)
 |ok (i:Nat) (hi:i<l.length) (hf:l[i].first≤f∧f<l[i].first+l[i].size) (hm:f∉l[i].free):aMG base l f (base.set i (aIF l[i] f),0)
theorem aWT {z:Zn} {f g:Int} (h:RZ g z)(hg:1≤g):inG f z=true↔z.first≤f∧f<z.first+z.size:=by
 have h1:=h.first;have h2:=h.stop;have h3:=h.size
 rw [inG,sV,aY (by omega) (by omega)]
 by_cases e:z.first≤f
 ·simp [e]
 ·simp [e]
theorem rL {base l:List Zn} {f:Int} (h:bH l=true):aMG base l f (eB base l f):=by
 have hc:=(dH l).1 h
 have hin:∀i (hi:i<l.length),inG f l[i]=true↔l[i].first≤f∧f<l[i].first+l[i].size:=fun i hi=>by
  obtain⟨g1,g2⟩:=hc.1.get i hi
  exact aWT g1 g2
 rw [eB,h,zK,cond_false]
 by_cases hr:dW (inG f) l<0
 ·rw [show decide (dW (inG f) l<0)=true by simpa using hr,cond_true]
  refine .range fun z hz=>?_
  obtain⟨i,hi,rfl⟩:=zA hz
  rw [←hin i hi,(qM _ _).1 hr _ (zD hi)]
  simp
 ·rw [show decide (dW (inG f) l<0)=false by simpa using hr,cond_false]
  obtain⟨i,hi,e,h1,-⟩:=nM (inG f) l (by omega)
  rw [e,zL,aCN l i hi]
  obtain⟨g1,g2⟩:=hc.1.get i hi
  cases hm:aCR l[i].free f with
  |true=>exact .free i hi ((hin i hi).1 h1) ((aGB g1.free.asc f).1 hm)
  |false=>
   refine .ok i hi ((hin i hi).1 h1) fun hx=>?_
   rw [(aGB g1.free.asc f).2 hx] at hm;cases hm
theorem aIH {base l:List Zn} {f:Int} (hs:eX base l)(h:bH l=true):bH (eB base l f).1=true:=by
 have hc:=(dH l).1 h
 have key:=rL (base:=base) (f:=f) h
 generalize eB base l f=q at key
 cases key with
 |range _=>rw [hs.check];exact h
 |free _ _ _ _=>rw [hs.check];exact h
 |ok i hi hf hm=>exact hs.set_check h i hi ((hc.1.get i hi).1.gave hf hm) rfl
theorem aYA(a b:Int):jC a b (pJ a b):=by
 refine⟨?_,fun x hx=>(aIV a b x).1 hx⟩
 rw [pJ,List.pairwise_map]
 refine List.Pairwise.imp (fun h=>?_) List.pairwise_lt_range
 omega
theorem aG2 {n k:Int} (h0:0≤n)(h1:n≤64)(hk:1≤k):tW n k=n/k∧0≤tW n k∧tW n k≤n:=by
 have e:n.tdiv k=n/k:=Int.tdiv_eq_ediv_of_nonneg h0
 have a:=Int.ediv_nonneg h0 (show 0≤k by omega)
 have b:=Int.ediv_le_self k h0
 rw [tW,e,aY (by omega) (by omega)]
 omega
theorem aPQ {f n:Int} (hf:1≤f∧f≤65)(h:aDZ f n=false):RZ f (mkZ f n):=by
 obtain⟨a1,a2,a3,a4⟩:=tO hf h
 have d8:=aG2 (n:=n) (k:=8) (by omega) a2 (by decide)
 have d4:=aG2 (n:=n) (k:=4) (by omega) a2 (by decide)
 have d2:=aG2 (n:=n) (k:=2) (by omega) a2 (by decide)
 exact⟨rfl,⟨a1,a2⟩,a3,⟨d8.2.1,by show tW n 8≤tW n 4;rw [d8.1,d4.1];omega,by show tW n 4≤tW n 2;rw [d4.1,d2.1];omega,d2.2.2⟩,aYA _ _⟩
theorem aNK:∀(s:List Int) (f:Int) (l:List Zn),1≤f∧f≤65→newR f s=some l→rZ f l∧l.length=s.length
 | [],f,l,_,h=>by obtain rfl: []=l:=Option.some.inj h;exact⟨trivial,rfl⟩
 |n::r,f,l,hf,h=>by
  rw [newR] at h
  cases hb:aDZ f n with
  |true=>rw [hb] at h;cases h
  |false=>
   rw [hb,cond_false,Option.map_eq_some_iff] at h
   obtain⟨l',h1,rfl⟩:=h
   have a:=tO hf hb
   obtain⟨h2,h3⟩:=aNK r (f+n) l' (by omega) h1
   exact⟨⟨aPQ hf hb,h2⟩,by simp [h3]⟩
theorem aX8 {s:List Int} (h:(newF s).2=0):bH (newF s).1=true∧(newF s).1.length=s.length∧newR 1 s=some (newF s).1:=by
 rw [newF] at h⊢
 cases hs:((s.length:Int)==0) with
 |true=>rw [hs] at h;cases h
 |false=>
  rw [hs] at h
  cases hn:newR 1 s with
  |none=>rw [hn] at h;cases h
  |some l=>
   obtain⟨h1,h2⟩:=aNK s 1 l (by decide) hn
   refine⟨(dH l).2 ⟨h1,?_⟩,h2,rfl⟩
   rintro rfl
   simp only [List.length_nil] at h2
   simp [←h2] at hs
end Go.Proofs.YtmhapcbjjpadnaaGreat
