/- Caches. -/
import Derived.Test.YtmhapcbjjpadnaaGreatGFb
import Derived.Test.YtmhapcbjjpadnaaGreatGGb
import Derived.Test.YtmhapcbjjpadnaaGreatG2b
import Derived.Test.YtmhapcbjjpadnaaGreatG6b
set_option linter.all false
set_option maxHeartbeats 8000000
set_option maxRecDepth 40000
open List renaming getElem?_eq_none→zA,mem_cons→zC,getElem_mem→zD,length_set→zE,ext_getElem?→zF,cons_append→zG,getElem_cons_succ→zH,mem_append→zI,getElem_of_mem→zJ,size_toArray→zK
open Nat renaming zero_le→zL
namespace Go.Proofs.YtmhapcbjjpadnaaGreat
open Go Go.Sk Go.RowKit
def vE(b:List UInt8)(k i:Nat):List UInt8:=(List.range b.length).map λj=>bif decide (j<i)&&decide (k<=j) then 0 else b.getD j 0
@[simp] theorem kR (b:List UInt8) (k i:Nat):(vE b k i).length=b.length:=by simp [vE]
theorem rQ(b:List UInt8)(k i j:Nat)(h:j<b.length):(vE b k i)[j]? =some (bif decide (j<i)&&decide (k<=j) then 0 else b.getD j 0):=by simp [vE,h]
theorem aQY(b:List UInt8)(k:Nat):vE b k 0=b:=by
 apply zF
 intro j
 by_cases h:j<b.length
 ·rw [rQ _ _ _ _ h];simp [h]
 ·rw [zA (by rw [kR];omega),zA (by omega)]
theorem aT7(b:List UInt8)(k i:Nat)(h:k<=i):vE b k (i+1)=(vE b k i).set i 0:=by
 apply zF
 intro j
 by_cases hj:j<b.length
 ·rw [rQ _ _ _ _ hj,List.getElem?_set]
  by_cases e:i=j
  ·subst e
   rw [if_pos rfl,if_pos (by rw [kR];exact hj),decide_eq_true h,decide_eq_true (by omega)];rfl
  ·rw [if_neg e,rQ _ _ _ _ hj,show decide (j<i+1)=decide (j<i) by rw [decide_eq_decide];omega]
 ·rw [zA (by rw [kR];omega),zA (by rw [zE,kR];omega)]
theorem aQX(b:List UInt8)(k i:Nat)(h:¬k<=i):vE b k (i+1)=vE b k i:=by
 apply zF
 intro j
 by_cases hj:j<b.length
 ·rw [rQ _ _ _ _ hj,rQ _ _ _ _ hj]
  by_cases e:i=j
  ·subst e
   rw [decide_eq_false h,Bool.and_false,Bool.and_false]
  ·rw [show decide (j<i+1)=decide (j<i) by rw [decide_eq_decide];omega]
 ·rw [zA (by rw [kR];omega),zA (by rw [kR];omega)]
theorem aTI {p:Pg} (h:dI p) {s:Nat} (hs:s<4)(d:ByteArray):dI (aK4 p s d):=by
 have key:∀v d t:Fin 4,jC false d.val v.val=0->(v.val ||| t.val)<4/\jC false d.val (v.val ||| t.val)=0:=by decide
 obtain⟨h1,h2⟩:=key ⟨p.v,h.v⟩ ⟨p.d,h.d⟩ ⟨s,hs⟩ h.sub
 exact⟨by show(rA p.b.data.toList d.data.toList (aRC s p.v) 16).toArray.size=16;rw [zK,iW];exact h.size,h1,h.d,h2⟩
def aEZ(c:Dc)(u:Us)(d:ByteArray)(ok:Bool):Us:=⟨u.file,u.page,bif ok then aK4 u.p u.rd ⟨(vE d.data.toList ((c.fl.getD u.file aP).size-u.page*16) 16).toArray⟩ else u.p,u.ten,u.holds,0,u.wr⟩
def aA1(c:Dc)(m:Nat)(u:Us)(d:ByteArray)(ok:Bool):Dc×Int:=bif u.rd==0 then(c,4) else bif ok&&decide (d.size≠16) then(c,1) else(c.put m (aEZ c u d ok),0)
theorem aLA {c:Dc} (h:Ok c) {m:Nat} {u:Us} (h1:m<c.fr.length)(h2:c.fr.getD m none=some u)(d:ByteArray)(ok:Bool):dI (aEZ c u d ok).p:=by
 have hu:=h.use m u h1 h2
 cases ok with
 |false=>exact hu.pg
 |true=>exact aTI hu.pg hu.rd _
theorem aW0 {c:Dc} (h:Ok c) {m:Nat} {u:Us} (h1:m<c.fr.length)(h2:c.fr.getD m none=some u)(d:ByteArray)(ok:Bool):Ok (aA1 c m u d ok).1:=by
 have hu:=h.use m u h1 h2
 unfold aA1
 cases(u.rd==0) with
 |true=>exact h
 |false=>
  rw [cond_false]
  cases(ok&&decide (d.size≠16)) with
  |true=>exact h
  |false=>exact h.put h1 h2 rfl (aLA h h1 h2 d ok) hu.holds (by show 0<4;omega) hu.wr
theorem bJK(c:Dc)(n:Int)(d:ByteArray)(ok:Bool)(hc:SmD c)(hu:gC c n=false):aM Tryz.prog 50 [] [.agg c.c,.int .i64 n,.str d,.bool ok] (.tup [.agg c.c,.int .i64 2]) []:=by
 have k70:=aB4 c n hc
 rw [hu] at k70
 refine aK (ob0:= []) [] Tryz.func50 rfl rfl rfl rfl ?_
 exact Wz
theorem bMF(c:Dc)(h:Ok c)(m:Nat)(u:Us)(h1:m<c.fr.length)(h2:c.fr.getD m none=some u)(d:ByteArray)(ok:Bool):
 aM Tryz.prog 50 [] [.agg c.c,.int .i64 ((m+1:Nat):Int),.str d,.bool ok] (.tup [.agg (aA1 c m u d ok).1.c,.int .i64 (aA1 c m u d ok).2]) []:=by
 have k70:=h.use70 h1 h2
 have hu:=h.use m u h1 h2
 have hgu:=jB h1 h2
 have hnr:=h.nr
 have hf:=hu.file
 have hgf:=iS hf
 have hs:=(h.file _ hf).size
 obtain⟨k0,k1,k2,k3,hfc,-⟩:=Df.cells (h.file _ hf).E
 rw [hfc] at hgf
 have hp8:=hu.page
 have hrd:=hu.rd
 have k155:=h.p155 (u':=aEZ c u d ok) h1 h2 rfl (aLA h h1 h2 d ok) (by show 0<4;omega) hu.wr
 have k159:=bHN u.p hu.pg u.rd hu.rd ⟨(vE d.data.toList ((c.fl.getD u.file aP).size-u.page*16) 16).toArray⟩
 generalize hq:aA1 c m u d ok=q
 unfold aA1 at hq
 by_cases b1:u.rd=0
 ·rw [beq_iff_eq.2 b1,cond_true] at hq
  subst hq
  refine aK (ob0:= []) [] Tryz.func50 rfl rfl rfl rfl ?_
  exact Wz
 rw [beq_eq_false_iff_ne.2 b1,cond_false] at hq
 cases ok with
 |false=>
  have hq:(c.put m (aEZ c u d false),(0:Int))=q:=hq
  subst hq
  unfold aEZ at *
  dsimp only [cond_false] at *
  generalize c.put m _=e at *
  refine aK (ob0:= []) [] Tryz.func50 rfl rfl rfl rfl ?_
  exact Wz
 |true=>
  rw [Bool.true_and] at hq
  by_cases b2:d.size=16
  ·rw [decide_eq_false (λe=>e b2),cond_false] at hq
   have hl:d.data.toList.length=16:=b2
   have k159:=k159 (by show(vE _ _ _).toArray.size=16;rw [zK,kR];exact hl)
   subst hq
   unfold aEZ at *
   dsimp only [cond_true] at *
   generalize aK4 u.p u.rd _=P at *
   generalize c.put m _=e at *
   generalize(c.fl.getD u.file aP).size=z at *
   refine aK (ob0:= []) [] Tryz.func50 rfl rfl rfl rfl ?_
   refine Wx ?_
   refine Lp (λi:Nat=>i<=16) (λi=> [(12,.int .i64 (i:Int))]) (λi=> [(3,.bb (vE d.data.toList (z-u.page*16) i))]) (λi=>16-i) 0 (zL _) ?_ ?_
   ·rw [aQY]
    exact Vr [_,_,_,_]
   intro i hi
   have hcl:=kR d.data.toList (z-u.page*16) i
   rw [hl] at hcl
   refine Wx ?_
   refine fP (λb=>?_) (λb=>?_)
   ·refine Wx ?_
    refine fP (λb3=>?_) (λb3=>?_)
    ·refine Wx ?_
     refine Le (i+1) (hv:=?_)
     simp only [aT7 _ _ i (show z-u.page*16<=i by omega)]
     exact Vr [_,_,_,_]
    ·refine Wx ?_
     refine Le (i+1) (hv:=?_)
     simp only [aQX _ _ i (show ¬z-u.page*16<=i by omega)]
     exact Vr [_,_,_,_]
   obtain rfl:i=16:=by omega
   rw [<-bCM (xs:=vE d.data.toList (z-u.page*16) 16) (n:=d.size) (by omega)] at k159
   exact Wz
  ·rw [decide_eq_true b2,cond_true] at hq
   subst hq
   refine aK (ob0:= []) [] Tryz.func50 rfl rfl rfl rfl ?_
   exact Wz
end Go.Proofs.YtmhapcbjjpadnaaGreat
namespace Go.Proofs.YtmhapcbjjpadnaaGreat
open Go Go.Sk Go.RowKit
theorem tQ.sep:∀ {l:List Zn} {f:Int},tQ f l->∀(i j:Nat) (hi:i<l.length) (hj:j<l.length),i<j->l[i].first+l[i].size<=l[j].first
 |z::r,f,h,0,j+1,_,hj,_=>by
  have :=(tQ.get h.2 j (by simpa using hj)).2
  simp only [List.getElem_cons_zero,zH]
  rw [h.1.first];exact this
 |z::r,f,h,i+1,j+1,hi,hj,hij=>by
  simp only [zH]
  exact tQ.sep h.2 i j (by simpa using hi) (by simpa using hj) (by omega)
theorem tQ.one {l:List Zn} {f:Int} (h:tQ f l) {i j:Nat} (hi:i<l.length)(hj:j<l.length) {x:Int} (h1:x∈l[i].free)(h2:x∈l[j].free):i=j:=by
 have a:=(h.get i hi).1.free.inn x h1
 have b:=(h.get j hj).1.free.inn x h2
 rcases Nat.lt_trichotomy i j with e |e |e
 ·have :=h.sep i j hi hj e;omega
 ·exact e
 ·have :=h.sep j i hj hi e;omega
theorem aH6 {l:List Zn} (h:bF l=true) {p:Int} {u:Bool} (he:(cJ l l p u).2.2=0):(∃z∈l,(cJ l l p u).2.1∈z.free)/\∀z∈(cJ l l p u).1,∀x∈z.free,x≠(cJ l l p u).2.1/\∃w∈l,x∈w.free:=by
 have hc:=(eH l).1 h
 have key:=aQB (base:=l) (p:=p) (u:=u) h
 generalize cJ l l p u=q at *
 cases key with
 |range _=>cases he
 |full _ _ _=>cases he
 |ok h0 h1 i hi hp hz hn=>
  have hg:=(hc.1.get i hi).1
  have hpos:0<l[i].free.length:=by
   have :=hg.marks
   unfold mT sD at hz
   have hz:=of_decide_eq_true hz
   cases u with
   |true=>rw [cond_true] at hz;omega
   |false=>rw [cond_false] at hz;omega
  have hm:l[i].free.getD 0 0∈l[i].free:=by rw [<-fI _ 0 hpos];exact zD hpos
  dsimp only
  refine⟨⟨_,zD hi,hm⟩,λz hz' x hx=>?_⟩
  obtain⟨j,hj,rfl⟩:=zJ hz'
  have hj':j<l.length:=by simpa using hj
  by_cases e:i=j
  ·subst e
   rw [List.getElem_set_self] at hx
   have hx:x∈l[i].free.drop 1:=hx
   refine⟨?_,_,zD hi,List.mem_of_mem_drop hx⟩
   rintro rfl
   obtain⟨k,hk,e⟩:=zJ hx
   rw [List.length_drop] at hk
   rw [List.getElem_drop,fI _ _ (by omega)] at e
   have :=jZ hg.free.asc 0 (1+k) (by omega) (by omega)
   omega
  ·rw [List.getElem_set_ne e] at hx
   refine⟨?_,_,zD hj',hx⟩
   rintro rfl
   exact e (hc.1.one hi hj' hm hx)
theorem aXE {l:Ls} (hl:fJ l=true) {f:Int} (act:Bool)(hf:cG f=true)(hn:¬inL l f):fJ (aAE l f act).1=true/\(∀x,inL (aAE l f act).1 x->x=f\/inL l x)/\(aAE l f act).1=(bif act then⟨f::l.A,l.I,l.R⟩ else⟨l.A,f::l.I,l.R⟩):=by
 have hP:=(gL l).1 hl
 have hk:=(pE f).1 hf
 have hnA:f∉l.A:=λh=>hn (.inl h)
 have hnI:f∉l.I:=λh=>hn (.inr h)
 have hh:oH l f=false:=by
  cases e:oH l f with
  |false=>rfl
  |true=>
   unfold oH at e
   simp only [Bool.or_eq_true,decide_eq_true_eq] at e
   exact absurd e hn
 unfold aAE aSV
 rw [hl,hf,hh,Bool.not_true,cond_false,cond_false,cond_false]
 cases act with
 |true=>
  rw [cond_true]
  refine⟨(gL _).2 ⟨?_,λx hx=>?_,hP.asc,λx hx=>?_⟩,λx hx=>?_,rfl⟩
  ·show((f::l.A)++l.I).Nodup
   rw [zG,List.nodup_cons,zI]
   exact⟨λh=>h.elim hnA hnI,hP.nodup⟩
  ·have hx:x∈(f::l.A)++l.I:=hx
   rw [zG,zC] at hx
   rcases hx with rfl |hx
   ·exact hk
   ·exact hP.known x hx
  ·show x∈(f::l.A)++l.I
   rw [zG,zC]
   exact .inr (hP.sub x hx)
  ·unfold inL at hx
   dsimp only at hx
   rw [zC] at hx
   rcases hx with (rfl |h)|h
   ·exact .inl rfl
   ·exact .inr (.inl h)
   ·exact .inr (.inr h)
 |false=>
  rw [cond_false]
  refine⟨(gL _).2 ⟨?_,λx hx=>?_,hP.asc,λx hx=>?_⟩,λx hx=>?_,rfl⟩
  ·show(l.A++(f::l.I)).Nodup
   have :=List.nodup_append.1 hP.nodup
   refine List.nodup_append.2 ⟨this.1,List.nodup_cons.2 ⟨hnI,this.2.1⟩,λa ha b hb=>?_⟩
   rcases List.mem_cons.1 hb with rfl |hb
   ·rintro rfl;exact hnA ha
   ·exact this.2.2 a ha b hb
  ·have hx:x∈l.A++(f::l.I):=hx
   rw [zI,zC] at hx
   rcases hx with hx |rfl |hx
   ·exact hP.known x (List.mem_append_left _ hx)
   ·exact hk
   ·exact hP.known x (List.mem_append_right _ hx)
  ·show x∈l.A++(f::l.I)
   rw [zI,zC]
   rcases List.mem_append.1 (hP.sub x hx) with h |h
   ·exact .inl h
   ·exact .inr (.inr h)
  ·unfold inL at hx
   dsimp only at hx
   rw [zC] at hx
   rcases hx with h |rfl |h
   ·exact .inr (.inl h)
   ·exact .inl rfl
   ·exact .inr (.inr h)
theorem aMJ {g:List Gr} (h:rI g=true) {t:Nat} (ht:t<g.length):rI (cK g t).1=true/\(cK g t).1.length=g.length:=by
 have hg:=aAR h ht
 unfold cK
 by_cases e:(g.getD t g0).lim- (g.getD t g0).chg<1
 ·rw [decide_eq_true e,cond_true];exact⟨h,rfl⟩
 ·rw [decide_eq_false e,cond_false]
  exact⟨aOK h (by omega) (by omega),rP _ _ _⟩
def aKT(b p:Nat):Pg:=bif lZ b p then⟨z16,3,0⟩ else⟨z16,0,0⟩
theorem aKU(b p:Nat):dI (aKT b p):=by
 unfold aKT
 cases lZ b p with
 |true=>exact⟨rfl,by decide,by decide,by decide⟩
 |false=>exact⟨rfl,by decide,by decide,by decide⟩
def vL(c:Dc)(f p t:Nat):Us:=⟨f,p,aKT (c.fl.getD f aP).blocks p,t,0,0,0⟩
def aN7(c:Dc)(f p t:Nat):Bool:=aXD (c.ck.getD t 0) ((c.fl.getD f aP).E p).1 ((c.ls.getD t l0).A.length:Int)
def Dc.ins(c:Dc)(f p t:Nat)(z:List Zn)(g:List Gr)(m:Nat):Dc:=
 ⟨c.fl.set f (eP (c.fl.getD f aP) (cI (c.fl.getD f aP).E p (((m+1:Nat):Int),0))),c.fr.set m (some (vL c f p t)),z,g,c.ls.set t (aAE (c.ls.getD t l0) ((m+1:Nat):Int) (aN7 c f p t)).1,c.ck,c.pt⟩
theorem Ok.ins {c:Dc} (h:Ok c) {f p t m:Nat} {z:List Zn} {g:List Gr} (hf:f<c.fl.length)(hp:p<8)(ht:t<c.gr.length)(hE:((c.fl.getD f aP).E p).1<=0)(hm:m<c.fr.length)(hn:c.fr.getD m none=none)
 (hz:bF z=true) (hzf:∀w∈z,∀x∈w.free,x≠((m+1:Nat):Int)/\∃v∈c.zo,x∈v.free) (hg:rI g=true) (hgl:g.length=c.gr.length):Ok (c.ins f p t z g m):=by
 have kf:=h.file f hf
 have hx64:cG ((m+1:Nat):Int)=true:=(pE _).2 (by have :=h.nr;omega)
 have htl:t<c.ls.length:=by rw [h.nl];exact ht
 have hnin:∀s,s<c.ls.length->¬inL (c.ls.getD s l0) ((m+1:Nat):Int):=λs hs hx=>by
  obtain⟨n,u,k1,k2,k3,k4⟩:=h.mem s _ hs hx
  have :n=m:=by omega
  subst this
  rw [hn] at k3;cases k3
 obtain⟨a1,a2,a3⟩:=aXE (h.ls t htl) (aN7 c f p t) hx64 (hnin t htl)
 have hEE:∀e q,(((c.ins f p t z g m).fl.getD e aP).E q).1=if e=f/\q=p then((m+1:Nat):Int) else((c.fl.getD e aP).E q).1:=λe q=>by
  show(((c.fl.set f (eP (c.fl.getD f aP) (cI (c.fl.getD f aP).E p (((m+1:Nat):Int),0)))).getD e aP).E q).1=_
  by_cases e1:e=f
  ·subst e1
   rw [aJ _ _ _ _ hf,fO]
   by_cases e2:q=p
   ·subst e2;rw [dH,if_pos ⟨rfl,rfl⟩]
   ·rw [cT e2,if_neg (λh=>e2 h.2)]
  ·rw [getD_set_ne _ _ _ e1,if_neg (λh=>e1 h.1)]
 have hfr:∀n,(c.ins f p t z g m).fr.getD n none=if n=m then some (vL c f p t) else c.fr.getD n none:=λn=>by
  show(c.fr.set m (some (vL c f p t))).getD n none=_
  by_cases e:n=m
  ·subst e;rw [aJ _ _ _ _ hm,if_pos rfl]
  ·rw [getD_set_ne _ _ _ e,if_neg e]
 have hfrl:(c.ins f p t z g m).fr.length=c.fr.length:=zE ..
 have hfll:(c.ins f p t z g m).fl.length=c.fl.length:=zE ..
 have hlsl:(c.ins f p t z g m).ls.length=c.ls.length:=zE ..
 refine⟨by rw [hfll];exact h.nf,by rw [hfrl];exact h.nr,by show g.length<=4;rw [hgl];exact h.ng,by rw [hlsl];show c.ls.length=g.length;rw [hgl];exact h.nl,by show c.ck.length=g.length;rw [hgl];exact h.nk,λe he=>?_,λn u hn' hu=>?_,λe q he hq=>?_,hz,λw hw x hx=>?_,hg,λs hs=>?_,λs x hs hx=>?_,h.ck,h.pt⟩
 ·show OkF ((c.fl.set f (eP (c.fl.getD f aP) (cI (c.fl.getD f aP).E p (((m+1:Nat):Int),0)))).getD e aP)
  by_cases e1:e=f
  ·subst e1
   rw [aJ _ _ _ _ hf]
   refine kf.eP (kf.E.set (Nat.zero_lt_succ _) (λ_=>rfl)) (kf.sup.set (by omega) _) (λq=>?_)
   by_cases e2:q=p
   ·subst e2;rw [dH];show(-1000001:Int)<=((m+1:Nat):Int);omega
   ·rw [cT e2];exact kf.lo q
  ·rw [getD_set_ne _ _ _ e1];exact h.file e (by rw [<-hfll];exact he)
 ·rw [hfr] at hu
  by_cases e:n=m
  ·subst e
   rw [if_pos rfl] at hu
   injection hu with hu
   subst hu
   first |refine aB ⟨by rw [hfll];exact hf,hp,aKU _ _,by show t<g.length;rw [hgl];exact ht,zL _,by show 0<4;omega,by show 0<4;omega⟩ ?_ |refine⟨by rw [hfll];exact hf,hp,aKU _ _,by show t<g.length;rw [hgl];exact ht,zL _,by show 0<4;omega,by show 0<4;omega,?_⟩
   rw [hEE,if_pos ⟨rfl,rfl⟩]
  ·rw [if_neg e] at hu
   have km:=h.use n u (by rw [<-hfrl];exact hn') hu
   first |refine aB ⟨by rw [hfll];exact km.file,km.page,km.pg,by show u.ten<g.length;rw [hgl];exact km.ten,km.holds,km.rd,km.wr⟩ ?_ |refine⟨by rw [hfll];exact km.file,km.page,km.pg,by show u.ten<g.length;rw [hgl];exact km.ten,km.holds,km.rd,km.wr,?_⟩
   rw [hEE,if_neg]
   ·exact km.val
   ·rintro ⟨e1,e2⟩
    have :=km.val
    rw [e1,e2] at this
    omega
 ·rw [hEE] at hq⊢
  by_cases e1:e=f/\q=p
  ·rw [if_pos e1]
   obtain⟨rfl,rfl⟩:=e1
   exact⟨m,vL c e q t,by rw [hfrl];exact hm,rfl,by rw [hfr,if_pos rfl],rfl,rfl⟩
  ·rw [if_neg e1] at hq⊢
   obtain⟨n,u,k1,k2,k3,k4,k5⟩:=h.ent e q (by rw [<-hfll];exact he) hq
   refine⟨n,u,by rw [hfrl];exact k1,k2,?_,k4,k5⟩
   rw [hfr,if_neg]
   ·exact k3
   ·rintro rfl;rw [hn] at k3;cases k3
 ·obtain⟨x1,v,hv,hx'⟩:=hzf w hw x hx
  obtain⟨n,k1,k2,k3⟩:=h.free v hv x hx'
  refine⟨n,by rw [hfrl];exact k1,k2,?_⟩
  rw [hfr,if_neg]
  ·exact k3
  ·rintro rfl;exact x1 k2
 ·have hs2:s<c.ls.length:=by rw [<-hlsl];exact hs
  clear hs
  show fJ ((c.ls.set t (aAE (c.ls.getD t l0) ((m+1:Nat):Int) (aN7 c f p t)).1).getD s l0)=true
  by_cases e:s=t
  ·rw [e,aJ _ _ _ _ htl];exact a1
  ·rw [getD_set_ne _ _ _ e];exact h.ls s hs2
 ·have hs2:s<c.ls.length:=by rw [<-hlsl];exact hs
  clear hs
  have hx:inL ((c.ls.set t (aAE (c.ls.getD t l0) ((m+1:Nat):Int) (aN7 c f p t)).1).getD s l0) x:=hx
  have old:inL (c.ls.getD s l0) x->∃n u,n< (c.ins f p t z g m).fr.length/\x=((n+1:Nat):Int)/\(c.ins f p t z g m).fr.getD n none=some u/\u.ten=s:=λhx=>by
   obtain⟨n,u,k1,k2,k3,k4⟩:=h.mem s x hs2 hx
   refine⟨n,u,by rw [hfrl];exact k1,k2,?_,k4⟩
   rw [hfr,if_neg]
   ·exact k3
   ·rintro rfl;rw [hn] at k3;cases k3
  by_cases e:s=t
  ·cases e
   rw [aJ _ _ _ _ htl] at hx
   rcases a2 x hx with rfl |hx
   ·exact⟨m,vL c f p t,by rw [hfrl];exact hm,rfl,by rw [hfr,if_pos rfl],rfl⟩
   ·exact old hx
  ·rw [getD_set_ne _ _ _ e] at hx
   exact old hx
def eU(c:Dc)(f p t:Nat)(pf:Int)(ur:Bool):Dc×Int×Int:=
 bif decide (0< ((c.fl.getD f aP).E p).1) then(c,0,5) else
 bif (cK c.gr t).2==0 then
  (bif (cJ c.zo c.zo pf ur).2.2==0 then(c.ins f p t (cJ c.zo c.zo pf ur).1 (cK c.gr t).1 ((cJ c.zo c.zo pf ur).2.1-1).toNat,(cJ c.zo c.zo pf ur).2.1,0) else(c,0,(cJ c.zo c.zo pf ur).2.2))
 else(c,0,(cK c.gr t).2)
theorem take_at {c:Dc} (h:Ok c) {pf:Int} {ur:Bool} (he:(cJ c.zo c.zo pf ur).2.2=0):∃m,m<c.fr.length/\(cJ c.zo c.zo pf ur).2.1=((m+1:Nat):Int)/\c.fr.getD m none=none:=by
 obtain⟨⟨z,hz,hx⟩,-⟩:=aH6 h.zone he
 exact h.free z hz _ hx
theorem aYH {c:Dc} (h:Ok c) {f p t:Nat} (pf:Int)(ur:Bool)(hf:f<c.fl.length)(hp:p<8)(ht:t<c.gr.length):Ok (eU c f p t pf ur).1:=by
 unfold eU
 by_cases e1:0< ((c.fl.getD f aP).E p).1
 ·rw [decide_eq_true e1];exact h
 rw [decide_eq_false e1,cond_false]
 cases e2:((cK c.gr t).2==0) with
 |false=>exact h
 |true=>
  rw [cond_true]
  cases e3:((cJ c.zo c.zo pf ur).2.2==0) with
  |false=>exact h
  |true=>
   rw [cond_true]
   have e3:=eq_of_beq e3
   obtain⟨m,m1,m2,m3⟩:=take_at h e3
   have hm:=(aH6 h.zone e3).2
   have hg:=aMJ h.gr ht
   dsimp only
   rw [m2,show(((m+1:Nat):Int)-1).toNat=m by omega]
   rw [m2] at hm
   exact h.ins hf hp ht (by omega) m1 m3 (aLP (gX.refl _) h.zone) hm hg.1 hg.2
end Go.Proofs.YtmhapcbjjpadnaaGreat
