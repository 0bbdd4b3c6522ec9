/- Caches. -/
import Derived.Test.YtmhapcbjjpadnaaGreatGF
import Derived.Test.YtmhapcbjjpadnaaGreatGG
import Derived.Test.YtmhapcbjjpadnaaGreatG2
import Derived.Test.YtmhapcbjjpadnaaGreatG6
set_option linter.unusedSimpArgs false
set_option linter.unusedVariables false
open List renaming getElem?_eq_none→zA,mem_cons→zC,getElem_mem→zD,length_set→zE,ext_getElem?→zF,cons_append→zG,getElem_cons_succ→zH,mem_append→zI,getElem_of_mem→zJ,size_toArray→zK
open Nat renaming zero_le→zL
set_option maxRecDepth 40000
namespace Go.Proofs.YtmhapcbjjpadnaaGreat
open Go Go.Sk Go.RowKit
def oR(b:List UInt8)(k i:Nat):List UInt8:=(List.range b.length).map fun j=>bif decide (j<i)&&decide (k≤j) then 0 else b.getD j 0
@[simp] theorem gW (b:List UInt8) (k i:Nat):(oR b k i).length=b.length:=by simp [oR]
theorem nL(b:List UInt8)(k i j:Nat)(h:j<b.length):(oR b k i)[j]? =some (bif decide (j<i)&&decide (k≤j) then 0 else b.getD j 0):=by simp [oR,h]
theorem aPD(b:List UInt8)(k:Nat):oR b k 0=b:=by
 apply zF
 intro j
 by_cases h:j<b.length
 ·rw [nL _ _ _ _ h];simp [h]
 ·rw [zA (by rw [gW];omega),zA (by omega)]
theorem aRO(b:List UInt8)(k i:Nat)(h:k≤i):oR b k (i+1)=(oR b k i).set i 0:=by
 apply zF
 intro j
 by_cases hj:j<b.length
 ·rw [nL _ _ _ _ hj,List.getElem?_set]
  by_cases e:i=j
  ·subst e
   rw [if_pos rfl,if_pos (by rw [gW];exact hj),decide_eq_true h,decide_eq_true (by omega)];rfl
  ·rw [if_neg e,nL _ _ _ _ hj,show decide (j<i+1)=decide (j<i) by rw [decide_eq_decide];omega]
 ·rw [zA (by rw [gW];omega),zA (by rw [zE,gW];omega)]
theorem aPC(b:List UInt8)(k i:Nat)(h:¬k≤i):oR b k (i+1)=oR b k i:=by
 apply zF
 intro j
 by_cases hj:j<b.length
 ·rw [nL _ _ _ _ hj,nL _ _ _ _ hj]
  by_cases e:i=j
  ·subst e
   rw [decide_eq_false h,Bool.and_false,Bool.and_false]
  ·rw [show decide (j<i+1)=decide (j<i) by rw [decide_eq_decide];omega]
 ·rw [zA (by rw [gW];omega),zA (by rw [gW];omega)]
theorem aS0 {p:Pg} (h:eA p) {s:Nat} (hs:s<4)(d:ByteArray):eA (pS p s d):=by
 have key:∀v d t:Fin 4,jE false d.val v.val=0→(v.val ||| t.val)<4∧jE false d.val (v.val ||| t.val)=0:=by decide
 obtain⟨h1,h2⟩:=key ⟨p.v,h.v⟩ ⟨p.d,h.d⟩ ⟨s,hs⟩ h.sub
 exact⟨by show(fT p.b.data.toList d.data.toList (oW s p.v) 16).toArray.size=16;rw [zK,dL];exact h.size,h1,h.d,h2⟩
def pV(c:Dc)(u:Us)(d:ByteArray)(ok:Bool):Us:=⟨u.file,u.page,bif ok then pS u.p u.rd ⟨(oR d.data.toList ((c.fl.getD u.file aR).size-u.page*16) 16).toArray⟩ else u.p,u.ten,u.holds,0,u.wr⟩
def sX(c:Dc)(m:Nat)(u:Us)(d:ByteArray)(ok:Bool):Dc×Int:=bif u.rd==0 then(c,4) else bif ok&&decide (d.size≠16) then(c,1) else(c.put m (pV c u d ok),0)
theorem aKA {c:Dc} (h:Ok c) {m:Nat} {u:Us} (h1:m<c.fr.length)(h2:c.fr.getD m none=some u)(d:ByteArray)(ok:Bool):eA (pV c u d ok).p:=by
 have hu:=h.use m u h1 h2
 cases ok with
 |false=>exact hu.pg
 |true=>exact aS0 hu.pg hu.rd _
theorem aUF {c:Dc} (h:Ok c) {m:Nat} {u:Us} (h1:m<c.fr.length)(h2:c.fr.getD m none=some u)(d:ByteArray)(ok:Bool):Ok (sX c m u d ok).1:=by
 have hu:=h.use m u h1 h2
 unfold sX
 cases(u.rd==0) with
 |true=>exact h
 |false=>
  rw [cond_false]
  cases(ok&&decide (d.size≠16)) with
  |true=>exact h
  |false=>exact h.put h1 h2 rfl (aKA h h1 h2 d ok) hu.holds (by show 0<4;omega) hu.wr
theorem bH9(c:Dc)(n:Int)(d:ByteArray)(ok:Bool)(hc:SmD c)(hu:gJ c n=false):aN Tryz.prog 50 [] [.agg c.c,.int .i64 n,.str d,.bool ok] (.tup [.agg c.c,.int .i64 2]) []:=by
 have k70:=aA8 c n hc
 rw [hu] at k70
 refine aJ (ob0:= []) [] Tryz.func50 rfl rfl rfl rfl ?_
 exact Wz
set_option maxHeartbeats 8000000 in
theorem bJH(c:Dc)(h:Ok c)(m:Nat)(u:Us)(h1:m<c.fr.length)(h2:c.fr.getD m none=some u)(d:ByteArray)(ok:Bool):
 aN Tryz.prog 50 [] [.agg c.c,.int .i64 ((m+1:Nat):Int),.str d,.bool ok] (.tup [.agg (sX c m u d ok).1.c,.int .i64 (sX c m u d ok).2]) []:=by
 have k70:=h.use70 h1 h2
 have hu:=h.use m u h1 h2
 have hgu:=nB h1 h2
 have hnr:=h.nr
 have hf:=hu.file
 have hgf:=qB hf
 have hs:=(h.file _ hf).size
 obtain⟨k0,k1,k2,k3,hfc,-⟩:=Df.cells (h.file _ hf).E
 rw [hfc] at hgf
 have hp8:=hu.page
 have hrd:=hu.rd
 have k155:=h.p155 (u':=pV c u d ok) h1 h2 rfl (aKA h h1 h2 d ok) (by show 0<4;omega) hu.wr
 have k159:=bFH u.p hu.pg u.rd hu.rd ⟨(oR d.data.toList ((c.fl.getD u.file aR).size-u.page*16) 16).toArray⟩
 generalize hq:sX c m u d ok=q
 unfold sX at hq
 by_cases b1:u.rd=0
 ·rw [beq_iff_eq.2 b1,cond_true] at hq
  subst hq
  refine aJ (ob0:= []) [] Tryz.func50 rfl rfl rfl rfl ?_
  exact Wz
 rw [beq_eq_false_iff_ne.2 b1,cond_false] at hq
 cases ok with
 |false=>
  have hq:(c.put m (pV c u d false),(0:Int))=q:=hq
  subst hq
  unfold pV at *
  dsimp only [cond_false] at *
  generalize c.put m _=e at *
  refine aJ (ob0:= []) [] Tryz.func50 rfl rfl rfl rfl ?_
  exact Wz
 |true=>
  rw [Bool.true_and] at hq
  by_cases b2:d.size=16
  ·rw [decide_eq_false (fun e=>e b2),cond_false] at hq
   have hl:d.data.toList.length=16:=b2
   have k159:=k159 (by show(oR _ _ _).toArray.size=16;rw [zK,gW];exact hl)
   subst hq
   unfold pV at *
   dsimp only [cond_true] at *
   generalize pS u.p u.rd _=P at *
   generalize c.put m _=e at *
   generalize(c.fl.getD u.file aR).size=z at *
   refine aJ (ob0:= []) [] Tryz.func50 rfl rfl rfl rfl ?_
   refine Wx ?_
   refine Lp (fun i:Nat=>i≤16) (fun i=> [(12,.int .i64 (i:Int))]) (fun i=> [(3,.bb (oR d.data.toList (z-u.page*16) i))]) (fun i=>16-i) 0 (zL _) ?_ ?_
   ·rw [aPD]
    exact Vr [_,_,_,_]
   intro i hi
   have hcl:=gW d.data.toList (z-u.page*16) i
   rw [hl] at hcl
   refine Wx ?_
   refine iN (fun b=>?_) (fun b=>?_)
   ·refine Wx ?_
    refine iN (fun b3=>?_) (fun b3=>?_)
    ·refine Wx ?_
     refine Le (i+1) (hv:=?_)
     simp only [aRO _ _ i (show z-u.page*16≤i by omega)]
     exact Vr [_,_,_,_]
    ·refine Wx ?_
     refine Le (i+1) (hv:=?_)
     simp only [aPC _ _ i (show ¬z-u.page*16≤i by omega)]
     exact Vr [_,_,_,_]
   obtain rfl:i=16:=by omega
   rw [←aUR (xs:=oR d.data.toList (z-u.page*16) 16) (n:=d.size) (by omega)] at k159
   exact Wz
  ·rw [decide_eq_true b2,cond_true] at hq
   subst hq
   refine aJ (ob0:= []) [] Tryz.func50 rfl rfl rfl rfl ?_
   exact Wz
end Go.Proofs.YtmhapcbjjpadnaaGreat
set_option maxRecDepth 40000
namespace Go.Proofs.YtmhapcbjjpadnaaGreat
open Go Go.Sk Go.RowKit
theorem sJ.sep:∀ {l:List Zn} {f:Int},sJ f l→∀(i j:Nat) (hi:i<l.length) (hj:j<l.length),i<j→l[i].first+l[i].size≤l[j].first
 |z::r,f,h,0,j+1,_,hj,_=>by
  have :=(sJ.get h.2 j (by simpa using hj)).2
  simp only [List.getElem_cons_zero,zH]
  rw [h.1.first];exact this
 |z::r,f,h,i+1,j+1,hi,hj,hij=>by
  simp only [zH]
  exact sJ.sep h.2 i j (by simpa using hi) (by simpa using hj) (by omega)
theorem sJ.one {l:List Zn} {f:Int} (h:sJ f l) {i j:Nat} (hi:i<l.length)(hj:j<l.length) {x:Int} (h1:x∈l[i].free)(h2:x∈l[j].free):i=j:=by
 have a:=(h.get i hi).1.free.inn x h1
 have b:=(h.get j hj).1.free.inn x h2
 rcases Nat.lt_trichotomy i j with e |e |e
 ·have :=h.sep i j hi hj e;omega
 ·exact e
 ·have :=h.sep j i hj hi e;omega
theorem aG6 {l:List Zn} (h:bB l=true) {p:Int} {u:Bool} (he:(bX l l p u).2.2=0):(∃z∈l,(bX l l p u).2.1∈z.free)∧∀z∈(bX l l p u).1,∀x∈z.free,x≠(bX l l p u).2.1∧∃w∈l,x∈w.free:=by
 have hc:=(dX l).1 h
 have key:=aOR (base:=l) (p:=p) (u:=u) h
 generalize bX l l p u=q at *
 cases key with
 |range _=>cases he
 |full _ _ _=>cases he
 |ok h0 h1 i hi hp hz hn=>
  have hg:=(hc.1.get i hi).1
  have hpos:0<l[i].free.length:=by
   have :=hg.marks
   unfold lS rB at hz
   have hz:=of_decide_eq_true hz
   cases u with
   |true=>rw [cond_true] at hz;omega
   |false=>rw [cond_false] at hz;omega
  have hm:l[i].free.getD 0 0∈l[i].free:=by rw [←eY _ 0 hpos];exact zD hpos
  dsimp only
  refine⟨⟨_,zD hi,hm⟩,fun z hz' x hx=>?_⟩
  obtain⟨j,hj,rfl⟩:=zJ hz'
  have hj':j<l.length:=by simpa using hj
  by_cases e:i=j
  ·subst e
   rw [List.getElem_set_self] at hx
   have hx:x∈l[i].free.drop 1:=hx
   refine⟨?_,_,zD hi,List.mem_of_mem_drop hx⟩
   rintro rfl
   obtain⟨k,hk,e⟩:=zJ hx
   rw [List.length_drop] at hk
   rw [List.getElem_drop,eY _ _ (by omega)] at e
   have :=jM hg.free.asc 0 (1+k) (by omega) (by omega)
   omega
  ·rw [List.getElem_set_ne e] at hx
   refine⟨?_,_,zD hj',hx⟩
   rintro rfl
   exact e (hc.1.one hi hj' hm hx)
theorem aVL {l:Ls} (hl:eZ l=true) {f:Int} (act:Bool)(hf:cF f=true)(hn:¬inL l f):eZ (sL l f act).1=true∧(∀x,inL (sL l f act).1 x→x=f∨inL l x)∧(sL l f act).1=(bif act then⟨f::l.A,l.I,l.R⟩ else⟨l.A,f::l.I,l.R⟩):=by
 have hP:=(gB l).1 hl
 have hk:=(nU f).1 hf
 have hnA:f∉l.A:=fun h=>hn (.inl h)
 have hnI:f∉l.I:=fun h=>hn (.inr h)
 have hh:mU l f=false:=by
  cases e:mU l f with
  |false=>rfl
  |true=>
   unfold mU at e
   simp only [Bool.or_eq_true,decide_eq_true_eq] at e
   exact absurd e hn
 unfold sL aP4
 rw [hl,hf,hh,Bool.not_true,cond_false,cond_false,cond_false]
 cases act with
 |true=>
  rw [cond_true]
  refine⟨(gB _).2 ⟨?_,fun x hx=>?_,hP.asc,fun x hx=>?_⟩,fun x hx=>?_,rfl⟩
  ·show((f::l.A)++l.I).Nodup
   rw [zG,List.nodup_cons,zI]
   exact⟨fun h=>h.elim hnA hnI,hP.nodup⟩
  ·have hx:x∈(f::l.A)++l.I:=hx
   rw [zG,zC] at hx
   rcases hx with rfl |hx
   ·exact hk
   ·exact hP.known x hx
  ·show x∈(f::l.A)++l.I
   rw [zG,zC]
   exact .inr (hP.sub x hx)
  ·unfold inL at hx
   dsimp only at hx
   rw [zC] at hx
   rcases hx with (rfl |h)|h
   ·exact .inl rfl
   ·exact .inr (.inl h)
   ·exact .inr (.inr h)
 |false=>
  rw [cond_false]
  refine⟨(gB _).2 ⟨?_,fun x hx=>?_,hP.asc,fun x hx=>?_⟩,fun x hx=>?_,rfl⟩
  ·show(l.A++(f::l.I)).Nodup
   have :=List.nodup_append.1 hP.nodup
   refine List.nodup_append.2 ⟨this.1,List.nodup_cons.2 ⟨hnI,this.2.1⟩,fun a ha b hb=>?_⟩
   rcases List.mem_cons.1 hb with rfl |hb
   ·rintro rfl;exact hnA ha
   ·exact this.2.2 a ha b hb
  ·have hx:x∈l.A++(f::l.I):=hx
   rw [zI,zC] at hx
   rcases hx with hx |rfl |hx
   ·exact hP.known x (List.mem_append_left _ hx)
   ·exact hk
   ·exact hP.known x (List.mem_append_right _ hx)
  ·show x∈l.A++(f::l.I)
   rw [zI,zC]
   rcases List.mem_append.1 (hP.sub x hx) with h |h
   ·exact .inl h
   ·exact .inr (.inr h)
  ·unfold inL at hx
   dsimp only at hx
   rw [zC] at hx
   rcases hx with h |rfl |h
   ·exact .inr (.inl h)
   ·exact .inl rfl
   ·exact .inr (.inr h)
theorem aLB {g:List Gr} (h:qE g=true) {t:Nat} (ht:t<g.length):qE (cA g t).1=true∧(cA g t).1.length=g.length:=by
 have hg:=vV h ht
 unfold cA
 by_cases e:(g.getD t g0).lim- (g.getD t g0).chg<1
 ·rw [decide_eq_true e,cond_true];exact⟨h,rfl⟩
 ·rw [decide_eq_false e,cond_false]
  exact⟨aN4 h (by omega) (by omega),qL _ _ _⟩
def aFH(b p:Nat):Pg:=bif kZ b p then⟨z16,3,0⟩ else⟨z16,0,0⟩
theorem aJP(b p:Nat):eA (aFH b p):=by
 unfold aFH
 cases kZ b p with
 |true=>exact⟨rfl,by decide,by decide,by decide⟩
 |false=>exact⟨rfl,by decide,by decide,by decide⟩
def oY(c:Dc)(f p t:Nat):Us:=⟨f,p,aFH (c.fl.getD f aR).blocks p,t,0,0,0⟩
def aGY(c:Dc)(f p t:Nat):Bool:=aL3 (c.ck.getD t 0) ((c.fl.getD f aR).E p).1 ((c.ls.getD t l0).A.length:Int)
def Dc.ins(c:Dc)(f p t:Nat)(z:List Zn)(g:List Gr)(m:Nat):Dc:=
 ⟨c.fl.set f (eK (c.fl.getD f aR) (cO (c.fl.getD f aR).E p (((m+1:Nat):Int),0))),c.fr.set m (some (oY c f p t)),z,g,c.ls.set t (sL (c.ls.getD t l0) ((m+1:Nat):Int) (aGY c f p t)).1,c.ck,c.pt⟩
theorem Ok.ins {c:Dc} (h:Ok c) {f p t m:Nat} {z:List Zn} {g:List Gr} (hf:f<c.fl.length)(hp:p<8)(ht:t<c.gr.length)(hE:((c.fl.getD f aR).E p).1≤0)(hm:m<c.fr.length)(hn:c.fr.getD m none=none)
 (hz:bB z=true) (hzf:∀w∈z,∀x∈w.free,x≠((m+1:Nat):Int)∧∃v∈c.zo,x∈v.free) (hg:qE g=true) (hgl:g.length=c.gr.length):Ok (c.ins f p t z g m):=by
 have kf:=h.file f hf
 have hx64:cF ((m+1:Nat):Int)=true:=(nU _).2 (by have :=h.nr;omega)
 have htl:t<c.ls.length:=by rw [h.nl];exact ht
 have hnin:∀s,s<c.ls.length→¬inL (c.ls.getD s l0) ((m+1:Nat):Int):=fun s hs hx=>by
  obtain⟨n,u,k1,k2,k3,k4⟩:=h.mem s _ hs hx
  have :n=m:=by omega
  subst this
  rw [hn] at k3;cases k3
 obtain⟨a1,a2,a3⟩:=aVL (h.ls t htl) (aGY c f p t) hx64 (hnin t htl)
 have hEE:∀e q,(((c.ins f p t z g m).fl.getD e aR).E q).1=if e=f∧q=p then((m+1:Nat):Int) else((c.fl.getD e aR).E q).1:=fun e q=>by
  show(((c.fl.set f (eK (c.fl.getD f aR) (cO (c.fl.getD f aR).E p (((m+1:Nat):Int),0)))).getD e aR).E q).1=_
  by_cases e1:e=f
  ·subst e1
   rw [aL _ _ _ _ hf,jP]
   by_cases e2:q=p
   ·subst e2;rw [dS,if_pos ⟨rfl,rfl⟩]
   ·rw [cS e2,if_neg (fun h=>e2 h.2)]
  ·rw [getD_set_ne _ _ _ e1,if_neg (fun h=>e1 h.1)]
 have hfr:∀n,(c.ins f p t z g m).fr.getD n none=if n=m then some (oY c f p t) else c.fr.getD n none:=fun n=>by
  show(c.fr.set m (some (oY c f p t))).getD n none=_
  by_cases e:n=m
  ·subst e;rw [aL _ _ _ _ hm,if_pos rfl]
  ·rw [getD_set_ne _ _ _ e,if_neg e]
 have hfrl:(c.ins f p t z g m).fr.length=c.fr.length:=zE ..
 have hfll:(c.ins f p t z g m).fl.length=c.fl.length:=zE ..
 have hlsl:(c.ins f p t z g m).ls.length=c.ls.length:=zE ..
 refine⟨by rw [hfll];exact h.nf,by rw [hfrl];exact h.nr,by show g.length≤4;rw [hgl];exact h.ng,by rw [hlsl];show c.ls.length=g.length;rw [hgl];exact h.nl,by show c.ck.length=g.length;rw [hgl];exact h.nk,fun e he=>?_,fun n u hn' hu=>?_,fun e q he hq=>?_,hz,fun w hw x hx=>?_,hg,fun s hs=>?_,fun s x hs hx=>?_,h.ck,h.pt⟩
 ·show OkF ((c.fl.set f (eK (c.fl.getD f aR) (cO (c.fl.getD f aR).E p (((m+1:Nat):Int),0)))).getD e aR)
  by_cases e1:e=f
  ·subst e1
   rw [aL _ _ _ _ hf]
   refine kf.eK (kf.E.set (Nat.zero_lt_succ _) (fun _=>rfl)) (kf.sup.set (by omega) _) (fun q=>?_)
   by_cases e2:q=p
   ·subst e2;rw [dS];show(-1000001:Int)≤((m+1:Nat):Int);omega
   ·rw [cS e2];exact kf.lo q
  ·rw [getD_set_ne _ _ _ e1];exact h.file e (by rw [←hfll];exact he)
 ·rw [hfr] at hu
  by_cases e:n=m
  ·subst e
   rw [if_pos rfl] at hu
   injection hu with hu
   subst hu
   first |refine aB ⟨by rw [hfll];exact hf,hp,aJP _ _,by show t<g.length;rw [hgl];exact ht,zL _,by show 0<4;omega,by show 0<4;omega⟩ ?_ |refine⟨by rw [hfll];exact hf,hp,aJP _ _,by show t<g.length;rw [hgl];exact ht,zL _,by show 0<4;omega,by show 0<4;omega,?_⟩
   rw [hEE,if_pos ⟨rfl,rfl⟩]
  ·rw [if_neg e] at hu
   have km:=h.use n u (by rw [←hfrl];exact hn') hu
   first |refine aB ⟨by rw [hfll];exact km.file,km.page,km.pg,by show u.ten<g.length;rw [hgl];exact km.ten,km.holds,km.rd,km.wr⟩ ?_ |refine⟨by rw [hfll];exact km.file,km.page,km.pg,by show u.ten<g.length;rw [hgl];exact km.ten,km.holds,km.rd,km.wr,?_⟩
   rw [hEE,if_neg]
   ·exact km.val
   ·rintro ⟨e1,e2⟩
    have :=km.val
    rw [e1,e2] at this
    omega
 ·rw [hEE] at hq⊢
  by_cases e1:e=f∧q=p
  ·rw [if_pos e1]
   obtain⟨rfl,rfl⟩:=e1
   exact⟨m,oY c e q t,by rw [hfrl];exact hm,rfl,by rw [hfr,if_pos rfl],rfl,rfl⟩
  ·rw [if_neg e1] at hq⊢
   obtain⟨n,u,k1,k2,k3,k4,k5⟩:=h.ent e q (by rw [←hfll];exact he) hq
   refine⟨n,u,by rw [hfrl];exact k1,k2,?_,k4,k5⟩
   rw [hfr,if_neg]
   ·exact k3
   ·rintro rfl;rw [hn] at k3;cases k3
 ·obtain⟨x1,v,hv,hx'⟩:=hzf w hw x hx
  obtain⟨n,k1,k2,k3⟩:=h.free v hv x hx'
  refine⟨n,by rw [hfrl];exact k1,k2,?_⟩
  rw [hfr,if_neg]
  ·exact k3
  ·rintro rfl;exact x1 k2
 ·have hs2:s<c.ls.length:=by rw [←hlsl];exact hs
  clear hs
  show eZ ((c.ls.set t (sL (c.ls.getD t l0) ((m+1:Nat):Int) (aGY c f p t)).1).getD s l0)=true
  by_cases e:s=t
  ·rw [e,aL _ _ _ _ htl];exact a1
  ·rw [getD_set_ne _ _ _ e];exact h.ls s hs2
 ·have hs2:s<c.ls.length:=by rw [←hlsl];exact hs
  clear hs
  have hx:inL ((c.ls.set t (sL (c.ls.getD t l0) ((m+1:Nat):Int) (aGY c f p t)).1).getD s l0) x:=hx
  have old:inL (c.ls.getD s l0) x→∃n u,n< (c.ins f p t z g m).fr.length∧x=((n+1:Nat):Int)∧(c.ins f p t z g m).fr.getD n none=some u∧u.ten=s:=fun hx=>by
   obtain⟨n,u,k1,k2,k3,k4⟩:=h.mem s x hs2 hx
   refine⟨n,u,by rw [hfrl];exact k1,k2,?_,k4⟩
   rw [hfr,if_neg]
   ·exact k3
   ·rintro rfl;rw [hn] at k3;cases k3
  by_cases e:s=t
  ·cases e
   rw [aL _ _ _ _ htl] at hx
   rcases a2 x hx with rfl |hx
   ·exact⟨m,oY c f p t,by rw [hfrl];exact hm,rfl,by rw [hfr,if_pos rfl],rfl⟩
   ·exact old hx
  ·rw [getD_set_ne _ _ _ e] at hx
   exact old hx
def eC(c:Dc)(f p t:Nat)(pf:Int)(ur:Bool):Dc×Int×Int:=
 bif decide (0< ((c.fl.getD f aR).E p).1) then(c,0,5) else
 bif (cA c.gr t).2==0 then
  (bif (bX c.zo c.zo pf ur).2.2==0 then(c.ins f p t (bX c.zo c.zo pf ur).1 (cA c.gr t).1 ((bX c.zo c.zo pf ur).2.1-1).toNat,(bX c.zo c.zo pf ur).2.1,0) else(c,0,(bX c.zo c.zo pf ur).2.2))
 else(c,0,(cA c.gr t).2)
theorem take_at {c:Dc} (h:Ok c) {pf:Int} {ur:Bool} (he:(bX c.zo c.zo pf ur).2.2=0):∃m,m<c.fr.length∧(bX c.zo c.zo pf ur).2.1=((m+1:Nat):Int)∧c.fr.getD m none=none:=by
 obtain⟨⟨z,hz,hx⟩,-⟩:=aG6 h.zone he
 exact h.free z hz _ hx
theorem aWO {c:Dc} (h:Ok c) {f p t:Nat} (pf:Int)(ur:Bool)(hf:f<c.fl.length)(hp:p<8)(ht:t<c.gr.length):Ok (eC c f p t pf ur).1:=by
 unfold eC
 by_cases e1:0< ((c.fl.getD f aR).E p).1
 ·rw [decide_eq_true e1];exact h
 rw [decide_eq_false e1,cond_false]
 cases e2:((cA c.gr t).2==0) with
 |false=>exact h
 |true=>
  rw [cond_true]
  cases e3:((bX c.zo c.zo pf ur).2.2==0) with
  |false=>exact h
  |true=>
   rw [cond_true]
   have e3:=eq_of_beq e3
   obtain⟨m,m1,m2,m3⟩:=take_at h e3
   have hm:=(aG6 h.zone e3).2
   have hg:=aLB h.gr ht
   dsimp only
   rw [m2,show(((m+1:Nat):Int)-1).toNat=m by omega]
   rw [m2] at hm
   exact h.ins hf hp ht (by omega) m1 m3 (aKN (fV.refl _) h.zone) hm hg.1 hg.2
end Go.Proofs.YtmhapcbjjpadnaaGreat
