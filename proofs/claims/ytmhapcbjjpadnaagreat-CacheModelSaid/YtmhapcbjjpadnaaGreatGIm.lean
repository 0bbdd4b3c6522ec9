/- Caches. -/
import Derived.Test.YtmhapcbjjpadnaaGreatGFm
import Derived.Test.YtmhapcbjjpadnaaGreatGGm
import Derived.Test.YtmhapcbjjpadnaaGreatG2m
import Derived.Test.YtmhapcbjjpadnaaGreatG6m
set_option linter.unusedSimpArgs false
set_option linter.unusedVariables false
open List renaming mem_cons→zA,getElem_mem→zC,cons_append→zD,getElem_cons_succ→zE,mem_append→zF,length_set→zG,getElem_of_mem→zH
set_option linter.constructorNameAsVariable false
set_option maxRecDepth 40000
namespace Go.Proofs.YtmhapcbjjpadnaaGreat
open Go Go.Sk Go.RowKit
def aBA(b:List UInt8)(k i:Nat):List UInt8:=(List.range b.length).map fun j=>bif decide (j<i)&&decide (k≤j) then 0 else b.getD j 0
@[simp] theorem aHY (b:List UInt8) (k i:Nat):(aBA b k i).length=b.length:=by simp [aBA]
theorem aHX(b:List UInt8)(k i j:Nat)(h:j<b.length):(aBA b k i)[j]? =some (bif decide (j<i)&&decide (k≤j) then 0 else b.getD j 0):=by simp [aBA,h]
theorem aIA {p:Pg} (h:dU p) {s:Nat} (hs:s<4)(d:ByteArray):dU (nC p s d):=by
 have key:∀v d t:Fin 4,gP false d.val v.val=0→(v.val ||| t.val)<4∧gP false d.val (v.val ||| t.val)=0:=by decide
 obtain⟨h1,h2⟩:=key ⟨p.v,h.v⟩ ⟨p.d,h.d⟩ ⟨s,hs⟩ h.sub
 exact⟨by show(iS p.b.data.toList d.data.toList (pV s p.v) 16).toArray.size=16;rw [List.size_toArray,iD];exact h.size,h1,h.d,h2⟩
def aAU(c:Dc)(u:Us)(d:ByteArray)(ok:Bool):Us:=⟨u.file,u.page,bif ok then nC u.p u.rd ⟨(aBA d.data.toList ((c.fl.getD u.file aK).size-u.page*16) 16).toArray⟩ else u.p,u.ten,u.holds,0,u.wr⟩
def uR(c:Dc)(m:Nat)(u:Us)(d:ByteArray)(ok:Bool):Dc×Int:=bif u.rd==0 then(c,4) else bif ok&&decide (d.size≠16) then(c,1) else(c.put m (aAU c u d ok),0)
theorem aUG {c:Dc} (h:Ok c) {m:Nat} {u:Us} (h1:m<c.fr.length)(h2:c.fr.getD m none=some u)(d:ByteArray)(ok:Bool):dU (aAU c u d ok).p:=by
 have hu:=h.use m u h1 h2
 cases ok with
 |false=>exact hu.pg
 |true=>exact aIA hu.pg hu.rd _
theorem aUE {c:Dc} (h:Ok c) {m:Nat} {u:Us} (h1:m<c.fr.length)(h2:c.fr.getD m none=some u)(d:ByteArray)(ok:Bool):Ok (uR c m u d ok).1:=by
 have hu:=h.use m u h1 h2
 unfold uR
 cases(u.rd==0) with
 |true=>exact h
 |false=>
  rw [cond_false]
  cases(ok&&decide (d.size≠16)) with
  |true=>exact h
  |false=>exact h.put h1 h2 rfl (aUG h h1 h2 d ok) hu.holds (by show 0<4;omega) hu.wr
end Go.Proofs.YtmhapcbjjpadnaaGreat
set_option maxRecDepth 40000
namespace Go.Proofs.YtmhapcbjjpadnaaGreat
open Go Go.Sk Go.RowKit
theorem rZ.sep:∀ {l:List Zn} {f:Int},rZ f l→∀(i j:Nat) (hi:i<l.length) (hj:j<l.length),i<j→l[i].first+l[i].size≤l[j].first
 |z::r,f,h,0,j+1,_,hj,_=>by
  have :=(rZ.get h.2 j (by simpa using hj)).2
  simp only [List.getElem_cons_zero,zE]
  rw [h.1.first];exact this
 |z::r,f,h,i+1,j+1,hi,hj,hij=>by
  simp only [zE]
  exact rZ.sep h.2 i j (by simpa using hi) (by simpa using hj) (by omega)
theorem rZ.one {l:List Zn} {f:Int} (h:rZ f l) {i j:Nat} (hi:i<l.length)(hj:j<l.length) {x:Int} (h1:x∈l[i].free)(h2:x∈l[j].free):i=j:=by
 have a:=(h.get i hi).1.free.inn x h1
 have b:=(h.get j hj).1.free.inn x h2
 rcases Nat.lt_trichotomy i j with e |e |e
 ·have :=h.sep i j hi hj e;omega
 ·exact e
 ·have :=h.sep j i hj hi e;omega
theorem aFN {l:List Zn} (h:bH l=true) {p:Int} {u:Bool} (he:(bX l l p u).2.2=0):(∃z∈l,(bX l l p u).2.1∈z.free)∧∀z∈(bX l l p u).1,∀x∈z.free,x≠(bX l l p u).2.1∧∃w∈l,x∈w.free:=by
 have hc:=(dH l).1 h
 have key:=aOK (base:=l) (p:=p) (u:=u) h
 generalize bX l l p u=q at *
 cases key with
 |range _=>cases he
 |full _ _ _=>cases he
 |ok h0 h1 i hi hp hz hn=>
  have hg:=(hc.1.get i hi).1
  have hpos:0<l[i].free.length:=by
   have :=hg.marks
   unfold nF qQ at hz
   have hz:=of_decide_eq_true hz
   cases u with
   |true=>rw [cond_true] at hz;omega
   |false=>rw [cond_false] at hz;omega
  have hm:l[i].free.getD 0 0∈l[i].free:=by rw [←fV _ 0 hpos];exact zC hpos
  dsimp only
  refine⟨⟨_,zC hi,hm⟩,fun z hz' x hx=>?_⟩
  obtain⟨j,hj,rfl⟩:=zH hz'
  have hj':j<l.length:=by simpa using hj
  by_cases e:i=j
  ·subst e
   rw [List.getElem_set_self] at hx
   have hx:x∈l[i].free.drop 1:=hx
   refine⟨?_,_,zC hi,List.mem_of_mem_drop hx⟩
   rintro rfl
   obtain⟨k,hk,e⟩:=zH hx
   rw [List.length_drop] at hk
   rw [List.getElem_drop,fV _ _ (by omega)] at e
   have :=jK hg.free.asc 0 (1+k) (by omega) (by omega)
   omega
  ·rw [List.getElem_set_ne e] at hx
   refine⟨?_,_,zC hj',hx⟩
   rintro rfl
   exact e (hc.1.one hi hj' hm hx)
theorem aVS {l:Ls} (hl:iI l=true) {f:Int} (act:Bool)(hf:dM f=true)(hn:¬inL l f):iI (aDY l f act).1=true∧(∀x,inL (aDY l f act).1 x→x=f∨inL l x)∧(aDY l f act).1=(bif act then⟨f::l.A,l.I,l.R⟩ else⟨l.A,f::l.I,l.R⟩):=by
 have hP:=(gQ l).1 hl
 have hk:=(nN f).1 hf
 have hnA:f∉l.A:=fun h=>hn (.inl h)
 have hnI:f∉l.I:=fun h=>hn (.inr h)
 have hh:sC l f=false:=by
  cases e:sC l f with
  |false=>rfl
  |true=>
   unfold sC at e
   simp only [Bool.or_eq_true,decide_eq_true_eq] at e
   exact absurd e hn
 unfold aDY aR8
 rw [hl,hf,hh,Bool.not_true,cond_false,cond_false,cond_false]
 cases act with
 |true=>
  rw [cond_true]
  refine⟨(gQ _).2 ⟨?_,fun x hx=>?_,hP.asc,fun x hx=>?_⟩,fun x hx=>?_,rfl⟩
  ·show((f::l.A)++l.I).Nodup
   rw [zD,List.nodup_cons,zF]
   exact⟨fun h=>h.elim hnA hnI,hP.nodup⟩
  ·have hx:x∈(f::l.A)++l.I:=hx
   rw [zD,zA] at hx
   rcases hx with rfl |hx
   ·exact hk
   ·exact hP.known x hx
  ·show x∈(f::l.A)++l.I
   rw [zD,zA]
   exact .inr (hP.sub x hx)
  ·unfold inL at hx
   dsimp only at hx
   rw [zA] at hx
   rcases hx with (rfl |h)|h
   ·exact .inl rfl
   ·exact .inr (.inl h)
   ·exact .inr (.inr h)
 |false=>
  rw [cond_false]
  refine⟨(gQ _).2 ⟨?_,fun x hx=>?_,hP.asc,fun x hx=>?_⟩,fun x hx=>?_,rfl⟩
  ·show(l.A++(f::l.I)).Nodup
   have :=List.nodup_append.1 hP.nodup
   refine List.nodup_append.2 ⟨this.1,List.nodup_cons.2 ⟨hnI,this.2.1⟩,fun a ha b hb=>?_⟩
   rcases List.mem_cons.1 hb with rfl |hb
   ·rintro rfl;exact hnA ha
   ·exact this.2.2 a ha b hb
  ·have hx:x∈l.A++(f::l.I):=hx
   rw [zF,zA] at hx
   rcases hx with hx |rfl |hx
   ·exact hP.known x (List.mem_append_left _ hx)
   ·exact hk
   ·exact hP.known x (List.mem_append_right _ hx)
  ·show x∈l.A++(f::l.I)
   rw [zF,zA]
   rcases List.mem_append.1 (hP.sub x hx) with h |h
   ·exact .inl h
   ·exact .inr (.inr h)
  ·unfold inL at hx
   dsimp only at hx
   rw [zA] at hx
   rcases hx with h |rfl |h
   ·exact .inr (.inl h)
   ·exact .inl rfl
   ·exact .inr (.inr h)
theorem aKN {g:List Gr} (h:vC g=true) {t:Nat} (ht:t<g.length):vC (cB g t).1=true∧(cB g t).1.length=g.length:=by
 have hg:=aG9 h ht
 unfold cB
 by_cases e:(g.getD t g0).lim- (g.getD t g0).chg<1
 ·rw [decide_eq_true e,cond_true];exact⟨h,rfl⟩
 ·rw [decide_eq_false e,cond_false]
  exact⟨aMR h (by omega) (by omega),qF _ _ _⟩
def aIX(b p:Nat):Pg:=bif eU b p then⟨z16,3,0⟩ else⟨z16,0,0⟩
theorem aIY(b p:Nat):dU (aIX b p):=by
 unfold aIX
 cases eU b p with
 |true=>exact⟨rfl,by decide,by decide,by decide⟩
 |false=>exact⟨rfl,by decide,by decide,by decide⟩
def qP(c:Dc)(f p t:Nat):Us:=⟨f,p,aIX (c.fl.getD f aK).blocks p,t,0,0,0⟩
def aL9(c:Dc)(f p t:Nat):Bool:=aVR (c.ck.getD t 0) ((c.fl.getD f aK).E p).1 ((c.ls.getD t l0).A.length:Int)
def Dc.ins(c:Dc)(f p t:Nat)(z:List Zn)(g:List Gr)(m:Nat):Dc:=
 ⟨c.fl.set f (dG (c.fl.getD f aK) (dA (c.fl.getD f aK).E p (((m+1:Nat):Int),0))),c.fr.set m (some (qP c f p t)),z,g,c.ls.set t (aDY (c.ls.getD t l0) ((m+1:Nat):Int) (aL9 c f p t)).1,c.ck,c.pt⟩
theorem Ok.ins {c:Dc} (h:Ok c) {f p t m:Nat} {z:List Zn} {g:List Gr} (hf:f<c.fl.length)(hp:p<8)(ht:t<c.gr.length)(hE:((c.fl.getD f aK).E p).1≤0)(hm:m<c.fr.length)(hn:c.fr.getD m none=none)
 (hz:bH z=true) (hzf:∀w∈z,∀x∈w.free,x≠((m+1:Nat):Int)∧∃v∈c.zo,x∈v.free) (hg:vC g=true) (hgl:g.length=c.gr.length):Ok (c.ins f p t z g m):=by
 have kf:=h.file f hf
 have hx64:dM ((m+1:Nat):Int)=true:=(nN _).2 (by have :=h.nr;omega)
 have htl:t<c.ls.length:=by rw [h.nl];exact ht
 have hnin:∀s,s<c.ls.length→¬inL (c.ls.getD s l0) ((m+1:Nat):Int):=fun s hs hx=>by
  obtain⟨n,u,k1,k2,k3,k4⟩:=h.mem s _ hs hx
  have :n=m:=by omega
  subst this
  rw [hn] at k3;cases k3
 obtain⟨a1,a2,a3⟩:=aVS (h.ls t htl) (aL9 c f p t) hx64 (hnin t htl)
 have hEE:∀e q,(((c.ins f p t z g m).fl.getD e aK).E q).1=if e=f∧q=p then((m+1:Nat):Int) else((c.fl.getD e aK).E q).1:=fun e q=>by
  show(((c.fl.set f (dG (c.fl.getD f aK) (dA (c.fl.getD f aK).E p (((m+1:Nat):Int),0)))).getD e aK).E q).1=_
  by_cases e1:e=f
  ·subst e1
   rw [aD _ _ _ _ hf,dK]
   by_cases e2:q=p
   ·subst e2;rw [cR,if_pos ⟨rfl,rfl⟩]
   ·rw [cW e2,if_neg (fun h=>e2 h.2)]
  ·rw [getD_set_ne _ _ _ e1,if_neg (fun h=>e1 h.1)]
 have hfr:∀n,(c.ins f p t z g m).fr.getD n none=if n=m then some (qP c f p t) else c.fr.getD n none:=fun n=>by
  show(c.fr.set m (some (qP c f p t))).getD n none=_
  by_cases e:n=m
  ·subst e;rw [aD _ _ _ _ hm,if_pos rfl]
  ·rw [getD_set_ne _ _ _ e,if_neg e]
 have hfrl:(c.ins f p t z g m).fr.length=c.fr.length:=zG ..
 have hfll:(c.ins f p t z g m).fl.length=c.fl.length:=zG ..
 have hlsl:(c.ins f p t z g m).ls.length=c.ls.length:=zG ..
 refine⟨by rw [hfll];exact h.nf,by rw [hfrl];exact h.nr,by show g.length≤4;rw [hgl];exact h.ng,by rw [hlsl];show c.ls.length=g.length;rw [hgl];exact h.nl,by show c.ck.length=g.length;rw [hgl];exact h.nk,fun e he=>?_,fun n u hn' hu=>?_,fun e q he hq=>?_,hz,fun w hw x hx=>?_,hg,fun s hs=>?_,fun s x hs hx=>?_,h.ck,h.pt⟩
 ·show OkF ((c.fl.set f (dG (c.fl.getD f aK) (dA (c.fl.getD f aK).E p (((m+1:Nat):Int),0)))).getD e aK)
  by_cases e1:e=f
  ·subst e1
   rw [aD _ _ _ _ hf]
   refine kf.dG (kf.E.set (Nat.zero_lt_succ _) (fun _=>rfl)) (kf.sup.set (by omega) _) (fun q=>?_)
   by_cases e2:q=p
   ·subst e2;rw [cR];show(-1000001:Int)≤((m+1:Nat):Int);omega
   ·rw [cW e2];exact kf.lo q
  ·rw [getD_set_ne _ _ _ e1];exact h.file e (by rw [←hfll];exact he)
 ·rw [hfr] at hu
  by_cases e:n=m
  ·subst e
   rw [if_pos rfl] at hu
   injection hu with hu
   subst hu
   first |refine aE ⟨by rw [hfll];exact hf,hp,aIY _ _,by show t<g.length;rw [hgl];exact ht,Nat.zero_le _,by show 0<4;omega,by show 0<4;omega⟩ ?_ |refine⟨by rw [hfll];exact hf,hp,aIY _ _,by show t<g.length;rw [hgl];exact ht,Nat.zero_le _,by show 0<4;omega,by show 0<4;omega,?_⟩
   rw [hEE,if_pos ⟨rfl,rfl⟩]
  ·rw [if_neg e] at hu
   have km:=h.use n u (by rw [←hfrl];exact hn') hu
   first |refine aE ⟨by rw [hfll];exact km.file,km.page,km.pg,by show u.ten<g.length;rw [hgl];exact km.ten,km.holds,km.rd,km.wr⟩ ?_ |refine⟨by rw [hfll];exact km.file,km.page,km.pg,by show u.ten<g.length;rw [hgl];exact km.ten,km.holds,km.rd,km.wr,?_⟩
   rw [hEE,if_neg]
   ·exact km.val
   ·rintro ⟨e1,e2⟩
    have :=km.val
    rw [e1,e2] at this
    omega
 ·rw [hEE] at hq⊢
  by_cases e1:e=f∧q=p
  ·rw [if_pos e1]
   obtain⟨rfl,rfl⟩:=e1
   exact⟨m,qP c e q t,by rw [hfrl];exact hm,rfl,by rw [hfr,if_pos rfl],rfl,rfl⟩
  ·rw [if_neg e1] at hq⊢
   obtain⟨n,u,k1,k2,k3,k4,k5⟩:=h.ent e q (by rw [←hfll];exact he) hq
   refine⟨n,u,by rw [hfrl];exact k1,k2,?_,k4,k5⟩
   rw [hfr,if_neg]
   ·exact k3
   ·rintro rfl;rw [hn] at k3;cases k3
 ·obtain⟨x1,v,hv,hx'⟩:=hzf w hw x hx
  obtain⟨n,k1,k2,k3⟩:=h.free v hv x hx'
  refine⟨n,by rw [hfrl];exact k1,k2,?_⟩
  rw [hfr,if_neg]
  ·exact k3
  ·rintro rfl;exact x1 k2
 ·have hs2:s<c.ls.length:=by rw [←hlsl];exact hs
  clear hs
  show iI ((c.ls.set t (aDY (c.ls.getD t l0) ((m+1:Nat):Int) (aL9 c f p t)).1).getD s l0)=true
  by_cases e:s=t
  ·rw [e,aD _ _ _ _ htl];exact a1
  ·rw [getD_set_ne _ _ _ e];exact h.ls s hs2
 ·have hs2:s<c.ls.length:=by rw [←hlsl];exact hs
  clear hs
  have hx:inL ((c.ls.set t (aDY (c.ls.getD t l0) ((m+1:Nat):Int) (aL9 c f p t)).1).getD s l0) x:=hx
  have old:inL (c.ls.getD s l0) x→∃n u,n< (c.ins f p t z g m).fr.length∧x=((n+1:Nat):Int)∧(c.ins f p t z g m).fr.getD n none=some u∧u.ten=s:=fun hx=>by
   obtain⟨n,u,k1,k2,k3,k4⟩:=h.mem s x hs2 hx
   refine⟨n,u,by rw [hfrl];exact k1,k2,?_,k4⟩
   rw [hfr,if_neg]
   ·exact k3
   ·rintro rfl;rw [hn] at k3;cases k3
  by_cases e:s=t
  ·cases e
   rw [aD _ _ _ _ htl] at hx
   rcases a2 x hx with rfl |hx
   ·exact⟨m,qP c f p t,by rw [hfrl];exact hm,rfl,by rw [hfr,if_pos rfl],rfl⟩
   ·exact old hx
  ·rw [getD_set_ne _ _ _ e] at hx
   exact old hx
def eA(c:Dc)(f p t:Nat)(pf:Int)(ur:Bool):Dc×Int×Int:=
 bif decide (0< ((c.fl.getD f aK).E p).1) then(c,0,5) else
 bif (cB c.gr t).2==0 then
  (bif (bX c.zo c.zo pf ur).2.2==0 then(c.ins f p t (bX c.zo c.zo pf ur).1 (cB c.gr t).1 ((bX c.zo c.zo pf ur).2.1-1).toNat,(bX c.zo c.zo pf ur).2.1,0) else(c,0,(bX c.zo c.zo pf ur).2.2))
 else(c,0,(cB c.gr t).2)
theorem take_at {c:Dc} (h:Ok c) {pf:Int} {ur:Bool} (he:(bX c.zo c.zo pf ur).2.2=0):∃m,m<c.fr.length∧(bX c.zo c.zo pf ur).2.1=((m+1:Nat):Int)∧c.fr.getD m none=none:=by
 obtain⟨⟨z,hz,hx⟩,-⟩:=aFN h.zone he
 exact h.free z hz _ hx
theorem aWU {c:Dc} (h:Ok c) {f p t:Nat} (pf:Int)(ur:Bool)(hf:f<c.fl.length)(hp:p<8)(ht:t<c.gr.length):Ok (eA c f p t pf ur).1:=by
 unfold eA
 by_cases e1:0< ((c.fl.getD f aK).E p).1
 ·rw [decide_eq_true e1];exact h
 rw [decide_eq_false e1,cond_false]
 cases e2:((cB c.gr t).2==0) with
 |false=>exact h
 |true=>
  rw [cond_true]
  cases e3:((bX c.zo c.zo pf ur).2.2==0) with
  |false=>exact h
  |true=>
   rw [cond_true]
   have e3:=eq_of_beq e3
   obtain⟨m,m1,m2,m3⟩:=take_at h e3
   have hm:=(aFN h.zone e3).2
   have hg:=aKN h.gr ht
   dsimp only
   rw [m2,show(((m+1:Nat):Int)-1).toNat=m by omega]
   rw [m2] at hm
   exact h.ins hf hp ht (by omega) m1 m3 (aJV (eX.refl _) h.zone) hm hg.1 hg.2
end Go.Proofs.YtmhapcbjjpadnaaGreat
