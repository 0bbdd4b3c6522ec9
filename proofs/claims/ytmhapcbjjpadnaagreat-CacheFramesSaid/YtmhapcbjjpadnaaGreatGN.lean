/- Caches. -/
import Derived.Test.YtmhapcbjjpadnaaGreatGM
import Derived.Test.YtmhapcbjjpadnaaGreatGJ
import Derived.Test.YtmhapcbjjpadnaaGreatG7
import Derived.Test.YtmhapcbjjpadnaaGreatK8
import Derived.Test.YtmhapcbjjpadnaaGreatGG
import Derived.Test.YtmhapcbjjpadnaaGreatXRN
set_option linter.unusedSimpArgs false
set_option linter.unusedVariables false
open Bool renaming true_and→zE
open List renaming getD_eq_getElem?_getD→zA,map_set→zC,getElem?_eq_none→zD,length_take→zF
set_option maxRecDepth 40000
namespace Go.Proofs.YtmhapcbjjpadnaaGreat
open Go Go.Sk Go.RowKit
theorem Ok.x {c:Dc} (h:Ok c):Ok c.x:=by
 have e:fV c.x.zo c.zo:=by
  show(c.zo.map noZ).map gU=c.zo.map gU
  rw [List.map_map];rfl
 refine⟨h.nf,h.nr,h.ng,h.nl,h.nk,h.file,fun n u hn hu=>?_,h.ent,by rw [e.check];exact h.zone,fun z hz x hx=>?_,h.gr,h.ls,h.mem,h.ck,h.pt⟩
 ·have k:=h.use n u hn hu
  exact⟨k.file,k.page,k.pg,k.ten,k.holds,k.rd,k.wr,k.val⟩
 ·obtain⟨w,hw,rfl⟩:=List.mem_map.1 hz
  exact h.free w hw x hx
theorem aE2 {c:Dc} {m:Nat} {u u':Us} {k:Nat} {vs:List V} (e:aQ 9 u.c k vs=u'.c):(aV c.fr).set m (aQ 9 u.c k vs)=aV (c.setU m u').fr:=by
 rw [e];unfold aV Dc.setU;rw [zC];rfl
def aJB(c:Dc)(n k:Int):Dc×Int:=match eN c n with
 |none=>(c.x,2)
 |some (m,u)=>bif decide (k≤255- (u.holds:Int)∧-(u.holds:Int)≤k) then(c.x.setU m (qY u ((u.holds:Int)+k).toNat),0) else(c.x,1)
set_option maxHeartbeats 8000000 in
theorem bJC(c:Dc)(h:Ok c)(n k:Int):aN Tryz.prog 44 [] [.agg c.c,.int .i64 n,.int .i64 k] (.tup [.agg (aJB c n k).1.c,.int .i64 (aJB c n k).2]) []:=by
 have k82:=aQ4 c h
 have k96:=aX4 c n h.sm
 have hnr:=h.nr
 generalize hq:aJB c n k=q
 unfold aJB at hq
 rcases bR c n with ⟨e,hu⟩| ⟨m,u,e,rfl,h1,h2⟩
 ·rw [e] at hq
  rw [hu] at k96
  subst hq
  refine aJ (ob0:= []) [] Tryz.func44 rfl rfl rfl rfl ?_
  exact qA
 ·rw [e] at hq
  dsimp only at hq
  rw [jC h1 h2] at k96
  have hu:=h.use m u h1 h2
  have hh:=hu.holds
  have hgu:(aV c.x.fr).getD m []=u.c:=nB h1 h2
  have hxl:c.x.fr.length=c.fr.length:=rfl
  have k147:=aJW c.x m h1 h.nr
  by_cases a1:k≤255- (u.holds:Int)
  ·by_cases a2: -(u.holds:Int)≤k
   ·rw [decide_eq_true ⟨a1,a2⟩,cond_true] at hq
    subst hq
    have hset:=aE2 (c:=c.x) (m:=m) (u:=u) (u':=qY u ((u.holds:Int)+k).toNat) (k:=6) (vs:= [.int .i64 ((u.holds:Int)+k)]) (by
     unfold qY Us.c aQ
     rw [show((((u.holds:Int)+k).toNat:Nat):Int)=(u.holds:Int)+k by omega];rfl)
    simp only [Dc.c]
    rw [←hset]
    refine aJ (ob0:= []) [] Tryz.func44 rfl rfl rfl rfl ?_
    exact qA
   ·rw [decide_eq_false (fun e=>a2 e.2),cond_false] at hq
    subst hq
    refine aJ (ob0:= []) [] Tryz.func44 rfl rfl rfl rfl ?_
    exact qA
  ·rw [decide_eq_false (fun e=>a1 e.1),cond_false] at hq
   subst hq
   refine aJ (ob0:= []) [] Tryz.func44 rfl rfl rfl rfl ?_
   exact qA
end Go.Proofs.YtmhapcbjjpadnaaGreat
set_option maxRecDepth 40000
namespace Go.Proofs.YtmhapcbjjpadnaaGreat
open Go Go.Sk Go.RowKit
def rbP(c:Dc)(n k:Int):Dc×Int:=match eN c n with
 |none=>(c.x,2)
 |some (m,u)=>bif decide ((1≤k∧k≤3)∧k.toNat &&& (u.p.v ||| u.rd)=0) then(c.x.setU m (sW u (u.rd ||| k.toNat)),0) else(c.x,1)
noncomputable def R46:Rsv Tryz.prog Tryz.f46 [] 3:=⟨_,_,rfl,rfl⟩
set_option maxHeartbeats 8000000 in
theorem bJE(c:Dc)(h:Ok c)(n k:Int):aN Tryz.prog 46 [] [.agg c.c,.int .i64 n,.int .i64 k] (.tup [.agg (rbP c n k).1.c,.int .i64 (rbP c n k).2]) []:=by
 have k82:=aQ4 c h
 have k96:=aX4 c n h.sm
 have hnr:=h.nr
 generalize hq:rbP c n k=q
 unfold rbP at hq
 rcases bR c n with ⟨e,hu⟩| ⟨m,u,e,rfl,h1,h2⟩
 ·rw [e] at hq
  rw [hu] at k96
  subst hq
  refine cW R46 (ob0:= []) Tryz.func46 rfl rfl rfl ?_
  exact qA
 ·rw [e] at hq
  dsimp only at hq
  rw [jC h1 h2] at k96
  have hu:=h.use m u h1 h2
  have hv4:=hu.pg.v
  have hr4:=hu.rd
  have ho4:=or4 hv4 hr4
  have hgu:(aV c.x.fr).getD m []=u.c:=nB h1 h2
  have hxl:c.x.fr.length=c.fr.length:=rfl
  have k147:=aJW c.x m h1 h.nr
  by_cases a1:1≤k∧k≤3
  ·obtain⟨k,rfl⟩:∃j:Nat,k=(j:Int):=⟨k.toNat,by omega⟩
   rw [Int.toNat_natCast] at hq
   by_cases a2:k &&& (u.p.v ||| u.rd)=0
   ·rw [decide_eq_true ⟨a1,a2⟩,cond_true] at hq
    subst hq
    have hor:=or4 hr4 (show k<4 by omega)
    have hset:=aE2 (c:=c.x) (m:=m) (u:=u) (u':=sW u (u.rd ||| k)) (k:=7) (vs:= [.int .i64 ((u.rd ||| k:Nat):Int)]) rfl
    have hz:((k &&& (u.p.v ||| u.rd):Nat):Int)=0:=by omega
    simp only [Dc.c]
    rw [←hset]
    refine cW R46 (ob0:= []) Tryz.func46 rfl rfl rfl ?_
    exact qA
   ·rw [decide_eq_false (fun e=>a2 e.2),cond_false] at hq
    have hz:((k &&& (u.p.v ||| u.rd):Nat):Int)≠0:=by omega
    subst hq
    refine cW R46 (ob0:= []) Tryz.func46 rfl rfl rfl ?_
    exact qA
  ·rw [decide_eq_false (fun e=>a1 e.1),cond_false] at hq
   subst hq
   by_cases a2:k<1
   ·refine cW R46 (ob0:= []) Tryz.func46 rfl rfl rfl ?_
    exact qA
   ·have a3:3<k:=by omega
    refine cW R46 (ob0:= []) Tryz.func46 rfl rfl rfl ?_
    exact qA
def evP(c:Dc)(n:Int):Dc×Int:=match eN c n with
 |none=>(c.x,2)
 |some (m,u)=>bif kK u&&decide (u.p.d=0) then(⟨(c.x.goneP m u (0- (c.ck.getD u.ten 0+1))).fl,(c.x.goneP m u (0- (c.ck.getD u.ten 0+1))).fr,(c.x.goneP m u (0- (c.ck.getD u.ten 0+1))).zo,(c.x.goneP m u (0- (c.ck.getD u.ten 0+1))).gr,(c.x.goneP m u (0- (c.ck.getD u.ten 0+1))).ls,c.ck.set u.ten (min (c.ck.getD u.ten 0+1) 1000000),(c.x.goneP m u (0- (c.ck.getD u.ten 0+1))).pt⟩,0) else(c.x,7)
noncomputable def R42:aVI Tryz.prog Tryz.f42 [] 2:=⟨_,_,_,_,_,_,_,rfl,rfl,rfl⟩
set_option maxHeartbeats 8000000 in
theorem bJA(c:Dc)(h:Ok c)(n:Int):aN Tryz.prog 42 [] [.agg c.c,.int .i64 n] (.tup [.agg (evP c n).1.c,.int .i64 (evP c n).2]) []:=by
 have k82:=aQ4 c h
 have k96:=aX4 c n h.sm
 have hnr:=h.nr
 generalize hq:evP c n=q
 unfold evP at hq
 rcases bR c n with ⟨e,hu⟩| ⟨m,u,e,rfl,h1,h2⟩
 ·rw [e] at hq
  rw [hu] at k96
  subst hq
  refine dH R42 (ob0:= []) cE Tryz.func42 rfl rfl rfl ?_
  exact qA
 ·rw [e] at hq
  dsimp only at hq
  rw [jC h1 h2] at k96
  have hu:=h.use m u h1 h2
  have hgu:=nB h1 h2
  have k151:=bFD u
  have htk:u.ten<c.ck.length:=by rw [h.nk];exact hu.ten
  have hck:=h.ck u.ten
  have hgk:(aE c.ck).getD u.ten []=[.int .i64 (c.ck.getD u.ten 0)]:=by simp [aE,zA,htk]
  have k152:=bFE (c.ck.getD u.ten 0) hck.1 hck.2
  have k153:=bFF c.x h.x m u h1 h2 (0- (c.ck.getD u.ten 0+1))
  have hcx:(c.x.goneP m u (0- (c.ck.getD u.ten 0+1))).ck=c.ck:=rfl
  have hsk:∀x:Int,(aE c.ck).set u.ten (aQ 1 [.int .i64 (c.ck.getD u.ten 0)] 0 [.int .i64 x])=aE (c.ck.set u.ten x):=fun x=>by
   have :aQ 1 [V.int .i64 (c.ck.getD u.ten 0)] 0 [.int .i64 x]=[.int .i64 x]:=rfl
   rw [this];unfold aE;rw [zC]
  generalize c.x.goneP m u (0- (c.ck.getD u.ten 0+1))=d at *
  obtain⟨fl,fr,zo,gr,ls,ck,pt⟩:=d
  have hcx:ck=c.ck:=hcx
  subst hcx
  cases hi:kK u with
  |false=>
   rw [hi,Bool.false_and,cond_false] at hq
   rw [hi] at k151
   subst hq
   refine dH R42 (ob0:= []) cE Tryz.func42 rfl rfl rfl ?_
   exact qA
  |true=>
   rw [hi,zE] at hq
   rw [hi] at k151
   by_cases hd:u.p.d=0
   ·rw [decide_eq_true hd,cond_true] at hq
    subst hq
    simp only [Dc.c]
    rw [←hsk]
    refine dH R42 (ob0:= []) cE Tryz.func42 rfl rfl rfl ?_
    exact qA
   ·rw [decide_eq_false hd,cond_false] at hq
    subst hq
    refine dH R42 (ob0:= []) cE Tryz.func42 rfl rfl rfl ?_
    exact qA
end Go.Proofs.YtmhapcbjjpadnaaGreat
set_option maxRecDepth 40000
namespace Go.Proofs.YtmhapcbjjpadnaaGreat
open Go Go.Sk Go.RowKit
theorem aRN(d:ByteArray)(hd:d.size=16)(k:Nat):(⟨(oR d.data.toList k 16).toArray⟩:ByteArray)=d.extract 0 (min k 16)++zB (16-min k 16):=by
 have hl:d.data.toList.length=16:=hd
 have e:oR d.data.toList k 16=d.data.toList.take (min k 16)++List.replicate (16-min k 16) 0:=by
  apply List.ext_getElem?
  intro j
  by_cases hj:j<16
  ·rw [nL _ _ _ _ (by omega),List.getElem?_append,decide_eq_true hj,zE]
   have l1:(d.data.toList.take (min k 16)).length=min k 16:=by rw [zF];omega
   rw [l1]
   by_cases c:k≤j
   ·rw [if_neg (by omega),decide_eq_true c,cond_true,List.getElem?_replicate,if_pos (by omega)]
   ·rw [if_pos (by omega),decide_eq_false c,cond_false,List.getElem?_take,if_pos (by omega)]
    rw [zA,List.getElem?_eq_getElem (show j<d.data.toList.length by omega)];rfl
  ·rw [zD (by rw [gW];omega),zD (by rw [List.length_append,zF,List.length_replicate];omega)]
 apply ByteArray.ext
 apply Array.toList_inj.1
 rw [ByteArray.data_append,Array.toList_append,ByteArray.data_extract,Array.toList_extract,List.extract_eq_take_drop]
 show oR d.data.toList k 16=_
 rw [e,List.drop_zero,Nat.sub_zero]
 rfl
theorem bD5(n:Nat)(h:n≤16):bD4 ⟨#[0]⟩ n=zB n:=by
 have key:∀n:Fin 17,(Lib.repeatL [(0:UInt8)] n.val)=List.replicate n.val 0:=by decide
 show(⟨(Lib.repeatL [(0:UInt8)] n).toArray⟩:ByteArray)=_
 rw [key ⟨n,by omega⟩];rfl
theorem bC1(n:Nat)(h:n≤16):aN Tryz.prog 158 [] [.str ⟨#[0]⟩,.int .i64 (n:Int)] (.str (zB n)) []:=by
 rw [←bD5 n h]
 exact aZA ⟨#[0]⟩ n (by omega) (by show 1*n≤_;omega)
def aUG(c:Dc)(m:Nat)(u:Us)(d:ByteArray)(ok:Bool):Dc×Int:=bif u.rd==0 then(c.x,4) else bif ok&&decide (d.size≠16) then(c.x,1) else(c.x.setU m (pV c u d ok),0)
def reP(c:Dc)(n:Int)(d:ByteArray)(ok:Bool):Dc×Int:=match eN c n with
 |none=>(c.x,2)
 |some (m,u)=>aUG c m u d ok
noncomputable def R49:aVI Tryz.prog Tryz.f49 [] 4:=⟨_,_,_,_,_,_,_,rfl,rfl,rfl⟩
set_option maxHeartbeats 8000000 in
theorem bJG(c:Dc)(h:Ok c)(n:Int)(d:ByteArray)(ok:Bool):aN Tryz.prog 49 [] [.agg c.c,.int .i64 n,.str d,.bool ok] (.tup [.agg (reP c n d ok).1.c,.int .i64 (reP c n d ok).2]) []:=by
 have k82:=aQ4 c h
 have k96:=aX4 c n h.sm
 have hnr:=h.nr
 generalize hq:reP c n d ok=q
 unfold reP at hq
 rcases bR c n with ⟨e,hu⟩| ⟨m,u,e,rfl,h1,h2⟩
 ·rw [e] at hq
  rw [hu] at k96
  subst hq
  refine dH R49 (ob0:= []) cE Tryz.func49 rfl rfl rfl ?_
  exact qA
 ·rw [e] at hq
  dsimp only at hq
  rw [jC h1 h2] at k96
  have hu:=h.use m u h1 h2
  have hrd:=hu.rd
  have hp8:=hu.page
  have hgu:(aV c.x.fr).getD m []=u.c:=nB h1 h2
  have hxl:c.x.fr.length=c.fr.length:=rfl
  have k147:=aJW c.x m h1 h.nr
  have k156:=aZ9 c.x m u h1 h2 hu.file h.nr
  have hf:=hu.file
  have hgf:(bM c.x.fl).getD u.file []=(c.fl.getD u.file aR).c:=qB hf
  have hs:=(h.file _ hf).size
  have hfl:c.x.fl.length=c.fl.length:=rfl
  obtain⟨k0,k1,k2,k3,hfc,-⟩:=Df.cells (h.file _ hf).E
  rw [hfc] at hgf
  unfold aUG at hq
  by_cases b1:u.rd=0
  ·rw [beq_iff_eq.2 b1,cond_true] at hq
   subst hq
   refine dH R49 (ob0:= []) cE Tryz.func49 rfl rfl rfl ?_
   exact qA
  ·rw [beq_eq_false_iff_ne.2 b1,cond_false] at hq
   cases ok with
   |false=>
    have hq:(c.x.setU m (pV c u d false),(0:Int))=q:=hq
    subst hq
    have hset:=aE2 (c:=c.x) (m:=m) (u:=u) (u':=pV c u d false) (k:=7) (vs:= [.int .i64 0]) rfl
    simp only [Dc.c]
    rw [←hset]
    refine dH R49 (ob0:= []) cE Tryz.func49 rfl rfl rfl ?_
    exact qA
   |true=>
    rw [zE] at hq
    by_cases b2:d.size=16
    ·rw [decide_eq_false (fun e=>e b2),cond_false] at hq
     subst hq
     have hcut:=aRN d b2 ((c.fl.getD u.file aR).size-u.page*16)
     have k157:=bFG u.p hu.pg u.rd hu.rd _ (show(⟨(oR d.data.toList ((c.fl.getD u.file aR).size-u.page*16) 16).toArray⟩:ByteArray).size=16 from by show(oR _ _ _).toArray.size=16;rw [List.size_toArray,gW];exact b2)
     rw [hcut] at k157
     have hN:min (max (((c.fl.getD u.file aR).size:Int)- ((u.page*16:Nat):Int)) 0) 16=((min ((c.fl.getD u.file aR).size-u.page*16) 16:Nat):Int):=by omega
     have k158:=bC1 (16-min ((c.fl.getD u.file aR).size-u.page*16) 16) (by omega)
     have hes:(d.extract 0 (min ((c.fl.getD u.file aR).size-u.page*16) 16)).size≤16:=by rw [ByteArray.size_extract];omega
     have hzs:=aI4 (16-min ((c.fl.getD u.file aR).size-u.page*16) 16)
     have hrs:((aV c.x.fr).set m (aQ 9 u.c 2 (pS u.p u.rd (d.extract 0 (min ((c.fl.getD u.file aR).size-u.page*16) 16)++zB (16-min ((c.fl.getD u.file aR).size-u.page*16) 16))).c)).set m (aQ 9 (aQ 9 u.c 2 (pS u.p u.rd (d.extract 0 (min ((c.fl.getD u.file aR).size-u.page*16) 16)++zB (16-min ((c.fl.getD u.file aR).size-u.page*16) 16))).c) 7 [.int .i64 0])=aV (c.x.setU m (pV c u d true)).fr:=by
      rw [List.set_set,←hcut]
      unfold aV Dc.setU
      rw [zC];rfl
     have hA:((aV c.x.fr).set m (aQ 9 u.c 2 (pS u.p u.rd (d.extract 0 (min ((c.fl.getD u.file aR).size-u.page*16) 16)++zB (16-min ((c.fl.getD u.file aR).size-u.page*16) 16))).c)).getD m []=aQ 9 u.c 2 (pS u.p u.rd (d.extract 0 (min ((c.fl.getD u.file aR).size-u.page*16) 16)++zB (16-min ((c.fl.getD u.file aR).size-u.page*16) 16))).c:=aL _ _ _ _ (by rw [bO];exact h1)
     simp only [Dc.c]
     rw [←hrs]
     clear hcut hrs
     generalize pS u.p u.rd _=P at *
     generalize min ((c.fl.getD u.file aR).size-u.page*16) 16=N at *
     refine dH R49 (ob0:= []) cE Tryz.func49 rfl rfl rfl ?_
     exact qA
    ·rw [decide_eq_true b2,cond_true] at hq
     subst hq
     refine dH R49 (ob0:= []) cE Tryz.func49 rfl rfl rfl ?_
     exact qA
end Go.Proofs.YtmhapcbjjpadnaaGreat
set_option maxRecDepth 40000
namespace Go.Proofs.YtmhapcbjjpadnaaGreat
open Go Go.Sk Go.RowKit
theorem bIR(c:Dc)(f:Int):aN Tryz.prog 141 [] [.agg c.c,.int .i64 f] (.bool (decide (0≤f∧f< (c.fl.length:Int)))) []:=by
 by_cases e:0≤f
 ·by_cases e2:f< (c.fl.length:Int)
  ·rw [decide_eq_true (show 0≤f∧f< (c.fl.length:Int) from⟨e,e2⟩)]
   refine aJ (ob0:= []) [] Tryz.func141 rfl rfl rfl rfl ?_
   exact qA
  ·rw [decide_eq_false (fun h=>e2 h.2)]
   refine aJ (ob0:= []) [] Tryz.func141 rfl rfl rfl rfl ?_
   exact qA
 ·rw [decide_eq_false (fun h=>e h.1)]
  refine aJ (ob0:= []) [] Tryz.func141 rfl rfl rfl rfl ?_
  exact qA
theorem xb(c:Dc):c.x.b=[.box [.sl 1 0 c.fl.length,.sl 2 0 c.fr.length,.lst 6 false (aP (c.zo.map noZ)),.lst 3 false (bE c.gr),.sl 3 0 c.ls.length,.sl 4 0 c.ck.length,.lst 5 false (aX c.pt)],.row 15 (bM c.fl),.row 9 (aV c.fr),.row 3 (bZ c.ls),.row 1 (aE c.ck)]:=rfl
def Dc.aD6(c:Dc)(f p t:Nat)(z:List Zn)(g:List Gr)(m:Nat):Dc:=
 ⟨c.fl.set f (eK (c.fl.getD f aR) (cO (c.fl.getD f aR).E p (((m+1:Nat):Int),0))),c.fr.set m (some (oY c f p t)),z,g,c.ls.set t (aBL (c.ls.getD t l0) ((m+1:Nat):Int) (aGY c f p t)).1,c.ck,c.pt⟩
def aD7(c:Dc)(f p t:Nat)(pf:Int)(ur:Bool):Dc×Int×Int:=
 bif decide (0< ((c.fl.getD f aR).E p).1) then(c.x,0,5) else
 bif (cA c.gr t).2==0 then
  (bif (bX (c.zo.map gU) c.zo pf ur).2.2==0 then(c.aD6 f p t (bX (c.zo.map gU) c.zo pf ur).1 (cA c.gr t).1 ((bX (c.zo.map gU) c.zo pf ur).2.1-1).toNat,(bX (c.zo.map gU) c.zo pf ur).2.1,0) else(c.x,0,(bX (c.zo.map gU) c.zo pf ur).2.2))
 else(c.x,0,(cA c.gr t).2)
def aD6(c:Dc)(f p t pf:Int)(ur:Bool):Dc×Int×Int:=bif inI c f p t pf then aD7 c f.toNat p.toNat t.toNat pf ur else(c.x,0,2)
noncomputable def R40:aVI Tryz.prog Tryz.f40 [] 6:=⟨_,_,_,_,_,_,_,rfl,rfl,rfl⟩
set_option maxHeartbeats 8000000 in
theorem bH0(c:Dc)(h:Ok c)(f p t pf:Int)(ur:Bool)(hi:inI c f p t pf=false):aN Tryz.prog 40 [] [.agg c.c,.int .i64 f,.int .i64 p,.int .i64 t,.int .i64 pf,.bool ur] (.tup [.agg c.x.c,.int .i64 0,.int .i64 2]) []:=by
 have k82:=aQ4 c h
 have k141:=bIR c f
 unfold inI at hi
 have hi:=of_decide_eq_false hi
 by_cases a1:0≤f∧f< (c.fl.length:Int)
 ·rw [decide_eq_true a1] at k141
  by_cases b1:p<0
  ·refine dH R40 (ob0:= []) cE Tryz.func40 rfl rfl rfl ?_
   exact qA
  by_cases b2:8≤p
  ·refine dH R40 (ob0:= []) cE Tryz.func40 rfl rfl rfl ?_
   exact qA
  by_cases b3:t<0
  ·refine dH R40 (ob0:= []) cE Tryz.func40 rfl rfl rfl ?_
   exact qA
  by_cases b4:(c.gr.length:Int)≤t
  ·refine dH R40 (ob0:= []) cE Tryz.func40 rfl rfl rfl ?_
   exact qA
  by_cases b5:pf<0
  ·refine dH R40 (ob0:= []) cE Tryz.func40 rfl rfl rfl ?_
   exact qA
  have b6:(c.zo.length:Int)≤pf:=by omega
  refine dH R40 (ob0:= []) cE Tryz.func40 rfl rfl rfl ?_
  exact qA
 ·rw [decide_eq_false a1] at k141
  refine dH R40 (ob0:= []) cE Tryz.func40 rfl rfl rfl ?_
  exact qA
set_option maxHeartbeats 8000000 in
theorem bH1(c:Dc)(h:Ok c)(f p t pf:Nat)(ur:Bool)(hf:f<c.fl.length)(hp:p<8)(ht:t<c.gr.length)(hpf:pf<c.zo.length):
 aN Tryz.prog 40 [] [.agg c.c,.int .i64 (f:Int),.int .i64 (p:Int),.int .i64 (t:Int),.int .i64 (pf:Int),.bool ur] (.tup [.agg (aD7 c f p t (pf:Int) ur).1.c,.int .i64 (aD7 c f p t (pf:Int) ur).2.1,.int .i64 (aD7 c f p t (pf:Int) ur).2.2]) []:=by
 have k82:=aQ4 c h
 have k141:=aZ4 c f hf
 have kf:=h.file f hf
 have k138:=bF7 c f p (by omega) h.sm hf kf.E kf.sup
 rw [rU] at k138
 have k142:=bF8 c.gr t ht h.gr
 have k109:=aZ0 c.zo false (pf:Int) ur h.smZ
 have hgf:=qB hf
 have htl:t<c.ls.length:=by rw [h.nl];exact ht
 have htk:t<c.ck.length:=by rw [h.nk];exact ht
 have hgl:=jO c.ls t htl
 have hgk:=aUK htk
 have k143:=aZ5 kf.E kf.sup p (by omega)
 have hck:=h.ck t
 have k150:=bFC (c.ck.getD t 0) ((c.fl.getD f aR).E p).1 ((c.ls.getD t l0).A.length:Int) hck.1 hck.2
 have k144:=bF9
 have k146:=bFB
 have k145:=bFA (c.fl.getD f aR) kf.E p hp kf.blocks
 have hnr:=h.nr
 obtain⟨k0,k1,k2,k3,hfc,hcan⟩:=Df.cells kf.E
 generalize hq:aD7 c f p t (pf:Int) ur=q
 unfold aD7 at hq
 by_cases e1:0< ((c.fl.getD f aR).E p).1
 ·rw [decide_eq_true e1,cond_true] at hq
  rw [decide_eq_false (show ¬((c.fl.getD f aR).E p).1≤0 by omega),cond_false] at k138
  subst hq
  refine dH R40 (ob0:= []) cE Tryz.func40 rfl rfl rfl ?_
  exact qA
 rw [decide_eq_false e1,cond_false] at hq
 rw [decide_eq_true (show((c.fl.getD f aR).E p).1≤0 by omega),cond_true] at k138
 by_cases e2:(cA c.gr t).2=0
 ·rw [beq_iff_eq.2 e2,cond_true] at hq
  rw [e2] at k142
  by_cases e3:(bX (c.zo.map gU) c.zo (pf:Int) ur).2.2=0
  ·rw [beq_iff_eq.2 e3,cond_true] at hq
   have hsim:=aG7 (p:=(pf:Int)) (u:=ur) (l:=c.zo) (fV.ex c.zo)
   obtain⟨m,m1,m2,m3⟩:=take_at h (by rw [←hsim.2];exact e3)
   rw [←hsim.2] at m2
   rw [e3,m2] at k109
   rw [m2,show(((m+1:Nat):Int)-1).toNat=m by omega] at hq
   have hE':bG (cO (c.fl.getD f aR).E p (((m+1:Nat):Int),0)):=kf.E.set (Nat.zero_lt_succ _) (fun _=>rfl)
   have k148:=aZ6 kf.E kf.sup p (by omega) ((m+1:Nat):Int)
   have k149:=aZ7 (c.ls.getD t l0) ((m+1:Nat):Int) (aGY c f p t) (h.smL t)
   have hput:=sC c.fl f _ hf kf.E hE'
   rw [eL c.fl f hf] at hput
   have hsetl:∀x:Ls,(bZ c.ls).set t (aQ 3 (c.ls.getD t l0).c 0 x.c)=bZ (c.ls.set t x):=fun x=>oF c.ls t x
   have hsetu:(aV c.fr).set m (aQ 9 fre.c 0 (oY c f p t).c)=aV (c.fr.set m (some (oY c f p t))):=by
    have :aQ 9 fre.c 0 (oY c f p t).c=(oY c f p t).c:=rfl
    rw [this];unfold aV;rw [zC];rfl
   have hgu:(aV c.fr).getD m []=fre.c:=by rw [cD c.fr m m1,m3];rfl
   obtain⟨q0,q1,q2,q3,hcan'⟩:=bI hE'
   rw [hfc] at hgf hput k145
   rw [hcan] at k143
   rw [hcan,hcan'] at k148
   rw [hcan'] at hput
   subst hq
   unfold Dc.aD6
   simp only [Dc.c]
   rw [←hput,←hsetu,←hsetl]
   unfold oY aFH
   unfold aGY at k149⊢
   generalize kZ (c.fl.getD f aR).blocks p=b at *
   generalize aL3 (c.ck.getD t 0) ((c.fl.getD f aR).E p).1 ((c.ls.getD t l0).A.length:Int)=ac at *
   generalize(aBL (c.ls.getD t l0) ((m+1:Nat):Int) ac).2=le at *
   generalize(aBL (c.ls.getD t l0) ((m+1:Nat):Int) ac).1=l2 at *
   clear hsim
   generalize(bX (c.zo.map gU) c.zo (pf:Int) ur).1=z2 at *
   generalize(cA c.gr t).1=g2 at *
   have k147:=aT3 c.fr m m1 hnr (aP z2) (bE g2) (aX c.pt) (bM c.fl) (bZ c.ls) (aE c.ck) c.fl.length c.ls.length c.ck.length
   rw [xb] at k82
   cases b with
   |true=>
    refine dH R40 (ob0:= []) cE Tryz.func40 rfl rfl rfl ?_
    exact qA
   |false=>
    refine dH R40 (ob0:= []) cE Tryz.func40 rfl rfl rfl ?_
    exact qA
  ·rw [beq_eq_false_iff_ne.2 e3,cond_false] at hq
   subst hq
   generalize bX (c.zo.map gU) c.zo (pf:Int) ur=x at *
   obtain⟨z2,zn,ze⟩:=x
   dsimp only at *
   refine dH R40 (ob0:= []) cE Tryz.func40 rfl rfl rfl ?_
   exact qA
 ·rw [beq_eq_false_iff_ne.2 e2,cond_false] at hq
  subst hq
  generalize cA c.gr t=x at *
  obtain⟨g2,ge⟩:=x
  dsimp only at *
  refine dH R40 (ob0:= []) cE Tryz.func40 rfl rfl rfl ?_
  exact qA
theorem bJ9(c:Dc)(h:Ok c)(f p t pf:Int)(ur:Bool):aN Tryz.prog 40 [] [.agg c.c,.int .i64 f,.int .i64 p,.int .i64 t,.int .i64 pf,.bool ur] (.tup [.agg (aD6 c f p t pf ur).1.c,.int .i64 (aD6 c f p t pf ur).2.1,.int .i64 (aD6 c f p t pf ur).2.2]) []:=by
 unfold aD6
 cases e:inI c f p t pf with
 |false=>exact bH0 c h f p t pf ur e
 |true=>
  unfold inI at e
  have e:=of_decide_eq_true e
  have :=bH1 c h f.toNat p.toNat t.toNat pf.toNat ur (by omega) (by omega) (by omega) (by omega)
  rwa [show((f.toNat:Nat):Int)=f by omega,show((p.toNat:Nat):Int)=p by omega,show((t.toNat:Nat):Int)=t by omega,show((pf.toNat:Nat):Int)=pf by omega] at this
end Go.Proofs.YtmhapcbjjpadnaaGreat
