/- Caches. -/
import Derived.Test.YtmhapcbjjpadnaaGreatGMm
import Derived.Test.YtmhapcbjjpadnaaGreatGJm
import Derived.Test.YtmhapcbjjpadnaaGreatG7m
import Derived.Test.YtmhapcbjjpadnaaGreatK8m
import Derived.Test.YtmhapcbjjpadnaaGreatGGm
import Derived.Test.YtmhapcbjjpadnaaGreatXRNm
set_option linter.unusedSimpArgs false
set_option linter.unusedVariables false
open Bool renaming true_and→zE
open List renaming getD_eq_getElem?_getD→zA,map_set→zC,getElem?_eq_none→zD,length_take→zF
set_option linter.constructorNameAsVariable false
set_option maxRecDepth 40000
namespace Go.Proofs.YtmhapcbjjpadnaaGreat
open Go Go.Sk Go.RowKit
theorem Ok.x {c:Dc} (h:Ok c):Ok c.x:=by
 have e:eX c.x.zo c.zo:=by
  show(c.zo.map vD).map fH=c.zo.map fH
  rw [List.map_map];rfl
 refine⟨h.nf,h.nr,h.ng,h.nl,h.nk,h.file,fun n u hn hu=>?_,h.ent,by rw [e.check];exact h.zone,fun z hz x hx=>?_,h.gr,h.ls,h.mem,h.ck,h.pt⟩
 ·have k:=h.use n u hn hu
  exact⟨k.file,k.page,k.pg,k.ten,k.holds,k.rd,k.wr,k.val⟩
 ·obtain⟨w,hw,rfl⟩:=List.mem_map.1 hz
  exact h.free w hw x hx
theorem aJK {c:Dc} {m:Nat} {u u':Us} {k:Nat} {vs:List V} (e:aR 9 u.c k vs=u'.c):(bE c.fr).set m (aR 9 u.c k vs)=bE (c.setU m u').fr:=by
 rw [e];unfold bE Dc.setU;rw [zC];rfl
end Go.Proofs.YtmhapcbjjpadnaaGreat
set_option maxRecDepth 40000
namespace Go.Proofs.YtmhapcbjjpadnaaGreat
open Go Go.Sk Go.RowKit
def rbP(c:Dc)(n k:Int):Dc×Int:=match eG c n with
 |none=>(c.x,2)
 |some (m,u)=>bif decide ((1≤k∧k≤3)∧k.toNat &&& (u.p.v ||| u.rd)=0) then(c.x.setU m (aFE u (u.rd ||| k.toNat)),0) else(c.x,1)
noncomputable def R46:Rsv Tryz.prog Tryz.f46 [] 3:=⟨_,_,rfl,rfl⟩
set_option maxHeartbeats 8000000 in
theorem bJ5(c:Dc)(h:Ok c)(n k:Int):aQ Tryz.prog 46 [] [.agg c.c,.int .i64 n,.int .i64 k] (.tup [.agg (rbP c n k).1.c,.int .i64 (rbP c n k).2]) []:=by
 have k82:=aE6 c h
 have k96:=aTR c n h.sm
 have hnr:=h.nr
 generalize hq:rbP c n k=q
 unfold rbP at hq
 rcases cK c n with ⟨e,hu⟩| ⟨m,u,e,rfl,h1,h2⟩
 ·rw [e] at hq
  rw [hu] at k96
  subst hq
  refine bR R46 (ob0:= []) Tryz.func46 rfl rfl rfl ?_
  exact eR
 ·rw [e] at hq
  dsimp only at hq
  rw [rW h1 h2] at k96
  have hu:=h.use m u h1 h2
  have hv4:=hu.pg.v
  have hr4:=hu.rd
  have ho4:=or4 hv4 hr4
  have hgu:(bE c.x.fr).getD m []=u.c:=pH h1 h2
  have hxl:c.x.fr.length=c.fr.length:=rfl
  have k147:=sN c.x m h1 h.nr
  by_cases a1:1≤k∧k≤3
  ·obtain⟨k,rfl⟩:∃j:Nat,k=(j:Int):=⟨k.toNat,by omega⟩
   rw [Int.toNat_natCast] at hq
   by_cases a2:k &&& (u.p.v ||| u.rd)=0
   ·rw [decide_eq_true ⟨a1,a2⟩,cond_true] at hq
    subst hq
    have hor:=or4 hr4 (show k<4 by omega)
    have hset:=aJK (c:=c.x) (m:=m) (u:=u) (u':=aFE u (u.rd ||| k)) (k:=7) (vs:= [.int .i64 ((u.rd ||| k:Nat):Int)]) rfl
    have hz:((k &&& (u.p.v ||| u.rd):Nat):Int)=0:=by omega
    simp only [Dc.c]
    rw [←hset]
    refine bR R46 (ob0:= []) Tryz.func46 rfl rfl rfl ?_
    exact eR
   ·rw [decide_eq_false (fun e=>a2 e.2),cond_false] at hq
    have hz:((k &&& (u.p.v ||| u.rd):Nat):Int)≠0:=by omega
    subst hq
    refine bR R46 (ob0:= []) Tryz.func46 rfl rfl rfl ?_
    exact eR
  ·rw [decide_eq_false (fun e=>a1 e.1),cond_false] at hq
   subst hq
   by_cases a2:k<1
   ·refine bR R46 (ob0:= []) Tryz.func46 rfl rfl rfl ?_
    exact eR
   ·have a3:3<k:=by omega
    refine bR R46 (ob0:= []) Tryz.func46 rfl rfl rfl ?_
    exact eR
def evP(c:Dc)(n:Int):Dc×Int:=match eG c n with
 |none=>(c.x,2)
 |some (m,u)=>bif pR u&&decide (u.p.d=0) then(⟨(c.x.goneP m u (0- (c.ck.getD u.ten 0+1))).fl,(c.x.goneP m u (0- (c.ck.getD u.ten 0+1))).fr,(c.x.goneP m u (0- (c.ck.getD u.ten 0+1))).zo,(c.x.goneP m u (0- (c.ck.getD u.ten 0+1))).gr,(c.x.goneP m u (0- (c.ck.getD u.ten 0+1))).ls,c.ck.set u.ten (min (c.ck.getD u.ten 0+1) 1000000),(c.x.goneP m u (0- (c.ck.getD u.ten 0+1))).pt⟩,0) else(c.x,7)
noncomputable def R42:aHJ Tryz.prog Tryz.f42 [] 2:=⟨_,_,_,_,_,_,_,rfl,rfl,rfl⟩
set_option maxHeartbeats 8000000 in
theorem bJ4(c:Dc)(h:Ok c)(n:Int):aQ Tryz.prog 42 [] [.agg c.c,.int .i64 n] (.tup [.agg (evP c n).1.c,.int .i64 (evP c n).2]) []:=by
 have k82:=aE6 c h
 have k96:=aTR c n h.sm
 have hnr:=h.nr
 generalize hq:evP c n=q
 unfold evP at hq
 rcases cK c n with ⟨e,hu⟩| ⟨m,u,e,rfl,h1,h2⟩
 ·rw [e] at hq
  rw [hu] at k96
  subst hq
  refine bD R42 (ob0:= []) aV Tryz.func42 rfl rfl rfl ?_
  exact eR
 ·rw [e] at hq
  dsimp only at hq
  rw [rW h1 h2] at k96
  have hu:=h.use m u h1 h2
  have hgu:=pH h1 h2
  have k151:=aZJ u
  have htk:u.ten<c.ck.length:=by rw [h.nk];exact hu.ten
  have hck:=h.ck u.ten
  have hgk:(aJ c.ck).getD u.ten []=[.int .i64 (c.ck.getD u.ten 0)]:=by simp [aJ,zA,htk]
  have k152:=bF9 (c.ck.getD u.ten 0) hck.1 hck.2
  have k153:=aZK c.x h.x m u h1 h2 (0- (c.ck.getD u.ten 0+1))
  have hcx:(c.x.goneP m u (0- (c.ck.getD u.ten 0+1))).ck=c.ck:=rfl
  have hsk:∀x:Int,(aJ c.ck).set u.ten (aR 1 [.int .i64 (c.ck.getD u.ten 0)] 0 [.int .i64 x])=aJ (c.ck.set u.ten x):=fun x=>by
   have :aR 1 [V.int .i64 (c.ck.getD u.ten 0)] 0 [.int .i64 x]=[.int .i64 x]:=rfl
   rw [this];unfold aJ;rw [zC]
  generalize c.x.goneP m u (0- (c.ck.getD u.ten 0+1))=d at *
  obtain⟨fl,fr,zo,gr,ls,ck,pt⟩:=d
  have hcx:ck=c.ck:=hcx
  subst hcx
  cases hi:pR u with
  |false=>
   rw [hi,Bool.false_and,cond_false] at hq
   rw [hi] at k151
   subst hq
   refine bD R42 (ob0:= []) aV Tryz.func42 rfl rfl rfl ?_
   exact eR
  |true=>
   rw [hi,zE] at hq
   rw [hi] at k151
   by_cases hd:u.p.d=0
   ·rw [decide_eq_true hd,cond_true] at hq
    subst hq
    simp only [Dc.c]
    rw [←hsk]
    refine bD R42 (ob0:= []) aV Tryz.func42 rfl rfl rfl ?_
    exact eR
   ·rw [decide_eq_false hd,cond_false] at hq
    subst hq
    refine bD R42 (ob0:= []) aV Tryz.func42 rfl rfl rfl ?_
    exact eR
end Go.Proofs.YtmhapcbjjpadnaaGreat
set_option maxRecDepth 40000
namespace Go.Proofs.YtmhapcbjjpadnaaGreat
open Go Go.Sk Go.RowKit
theorem aRP(d:ByteArray)(hd:d.size=16)(k:Nat):(⟨(aBA d.data.toList k 16).toArray⟩:ByteArray)=d.extract 0 (min k 16)++zB (16-min k 16):=by
 have hl:d.data.toList.length=16:=hd
 have e:aBA d.data.toList k 16=d.data.toList.take (min k 16)++List.replicate (16-min k 16) 0:=by
  apply List.ext_getElem?
  intro j
  by_cases hj:j<16
  ·rw [aHX _ _ _ _ (by omega),List.getElem?_append,decide_eq_true hj,zE]
   have l1:(d.data.toList.take (min k 16)).length=min k 16:=by rw [zF];omega
   rw [l1]
   by_cases c:k≤j
   ·rw [if_neg (by omega),decide_eq_true c,cond_true,List.getElem?_replicate,if_pos (by omega)]
   ·rw [if_pos (by omega),decide_eq_false c,cond_false,List.getElem?_take,if_pos (by omega)]
    rw [zA,List.getElem?_eq_getElem (show j<d.data.toList.length by omega)];rfl
  ·rw [zD (by rw [aHY];omega),zD (by rw [List.length_append,zF,List.length_replicate];omega)]
 apply ByteArray.ext
 apply Array.toList_inj.1
 rw [ByteArray.data_append,Array.toList_append,ByteArray.data_extract,Array.toList_extract,List.extract_eq_take_drop]
 show aBA d.data.toList k 16=_
 rw [e,List.drop_zero,Nat.sub_zero]
 rfl
theorem bD7(n:Nat)(h:n≤16):aY1 ⟨#[0]⟩ n=zB n:=by
 have key:∀n:Fin 17,(Lib.repeatL [(0:UInt8)] n.val)=List.replicate n.val 0:=by decide
 show(⟨(Lib.repeatL [(0:UInt8)] n).toArray⟩:ByteArray)=_
 rw [key ⟨n,by omega⟩];rfl
theorem aT6(n:Nat)(h:n≤16):aQ Tryz.prog 158 [] [.str ⟨#[0]⟩,.int .i64 (n:Int)] (.str (zB n)) []:=by
 rw [←bD7 n h]
 exact aT5 ⟨#[0]⟩ n (by omega) (by show 1*n≤_;omega)
def aUF(c:Dc)(m:Nat)(u:Us)(d:ByteArray)(ok:Bool):Dc×Int:=bif u.rd==0 then(c.x,4) else bif ok&&decide (d.size≠16) then(c.x,1) else(c.x.setU m (aAU c u d ok),0)
def reP(c:Dc)(n:Int)(d:ByteArray)(ok:Bool):Dc×Int:=match eG c n with
 |none=>(c.x,2)
 |some (m,u)=>aUF c m u d ok
noncomputable def R49:aHJ Tryz.prog Tryz.f49 [] 4:=⟨_,_,_,_,_,_,_,rfl,rfl,rfl⟩
set_option maxHeartbeats 8000000 in
theorem bJ7(c:Dc)(h:Ok c)(n:Int)(d:ByteArray)(ok:Bool):aQ Tryz.prog 49 [] [.agg c.c,.int .i64 n,.str d,.bool ok] (.tup [.agg (reP c n d ok).1.c,.int .i64 (reP c n d ok).2]) []:=by
 have k82:=aE6 c h
 have k96:=aTR c n h.sm
 have hnr:=h.nr
 generalize hq:reP c n d ok=q
 unfold reP at hq
 rcases cK c n with ⟨e,hu⟩| ⟨m,u,e,rfl,h1,h2⟩
 ·rw [e] at hq
  rw [hu] at k96
  subst hq
  refine bD R49 (ob0:= []) aV Tryz.func49 rfl rfl rfl ?_
  exact eR
 ·rw [e] at hq
  dsimp only at hq
  rw [rW h1 h2] at k96
  have hu:=h.use m u h1 h2
  have hrd:=hu.rd
  have hp8:=hu.page
  have hgu:(bE c.x.fr).getD m []=u.c:=pH h1 h2
  have hxl:c.x.fr.length=c.fr.length:=rfl
  have k147:=sN c.x m h1 h.nr
  have k156:=aT4 c.x m u h1 h2 hu.file h.nr
  have hf:=hu.file
  have hgf:(bG c.x.fl).getD u.file []=(c.fl.getD u.file aK).c:=mV hf
  have hs:=(h.file _ hf).size
  have hfl:c.x.fl.length=c.fl.length:=rfl
  obtain⟨k0,k1,k2,k3,hfc,-⟩:=Df.cells (h.file _ hf).E
  rw [hfc] at hgf
  unfold aUF at hq
  by_cases b1:u.rd=0
  ·rw [beq_iff_eq.2 b1,cond_true] at hq
   subst hq
   refine bD R49 (ob0:= []) aV Tryz.func49 rfl rfl rfl ?_
   exact eR
  ·rw [beq_eq_false_iff_ne.2 b1,cond_false] at hq
   cases ok with
   |false=>
    have hq:(c.x.setU m (aAU c u d false),(0:Int))=q:=hq
    subst hq
    have hset:=aJK (c:=c.x) (m:=m) (u:=u) (u':=aAU c u d false) (k:=7) (vs:= [.int .i64 0]) rfl
    simp only [Dc.c]
    rw [←hset]
    refine bD R49 (ob0:= []) aV Tryz.func49 rfl rfl rfl ?_
    exact eR
   |true=>
    rw [zE] at hq
    by_cases b2:d.size=16
    ·rw [decide_eq_false (fun e=>e b2),cond_false] at hq
     subst hq
     have hcut:=aRP d b2 ((c.fl.getD u.file aK).size-u.page*16)
     have k157:=bFA u.p hu.pg u.rd hu.rd _ (show(⟨(aBA d.data.toList ((c.fl.getD u.file aK).size-u.page*16) 16).toArray⟩:ByteArray).size=16 from by show(aBA _ _ _).toArray.size=16;rw [List.size_toArray,aHY];exact b2)
     rw [hcut] at k157
     have hN:min (max (((c.fl.getD u.file aK).size:Int)- ((u.page*16:Nat):Int)) 0) 16=((min ((c.fl.getD u.file aK).size-u.page*16) 16:Nat):Int):=by omega
     have k158:=aT6 (16-min ((c.fl.getD u.file aK).size-u.page*16) 16) (by omega)
     have hes:(d.extract 0 (min ((c.fl.getD u.file aK).size-u.page*16) 16)).size≤16:=by rw [ByteArray.size_extract];omega
     have hzs:=kK (16-min ((c.fl.getD u.file aK).size-u.page*16) 16)
     have hrs:((bE c.x.fr).set m (aR 9 u.c 2 (nC u.p u.rd (d.extract 0 (min ((c.fl.getD u.file aK).size-u.page*16) 16)++zB (16-min ((c.fl.getD u.file aK).size-u.page*16) 16))).c)).set m (aR 9 (aR 9 u.c 2 (nC u.p u.rd (d.extract 0 (min ((c.fl.getD u.file aK).size-u.page*16) 16)++zB (16-min ((c.fl.getD u.file aK).size-u.page*16) 16))).c) 7 [.int .i64 0])=bE (c.x.setU m (aAU c u d true)).fr:=by
      rw [List.set_set,←hcut]
      unfold bE Dc.setU
      rw [zC];rfl
     have hA:((bE c.x.fr).set m (aR 9 u.c 2 (nC u.p u.rd (d.extract 0 (min ((c.fl.getD u.file aK).size-u.page*16) 16)++zB (16-min ((c.fl.getD u.file aK).size-u.page*16) 16))).c)).getD m []=aR 9 u.c 2 (nC u.p u.rd (d.extract 0 (min ((c.fl.getD u.file aK).size-u.page*16) 16)++zB (16-min ((c.fl.getD u.file aK).size-u.page*16) 16))).c:=aD _ _ _ _ (by rw [eV];exact h1)
     simp only [Dc.c]
     rw [←hrs]
     clear hcut hrs
     generalize nC u.p u.rd _=P at *
     generalize min ((c.fl.getD u.file aK).size-u.page*16) 16=N at *
     refine bD R49 (ob0:= []) aV Tryz.func49 rfl rfl rfl ?_
     exact eR
    ·rw [decide_eq_true b2,cond_true] at hq
     subst hq
     refine bD R49 (ob0:= []) aV Tryz.func49 rfl rfl rfl ?_
     exact eR
end Go.Proofs.YtmhapcbjjpadnaaGreat
set_option maxRecDepth 40000
namespace Go.Proofs.YtmhapcbjjpadnaaGreat
open Go Go.Sk Go.RowKit
theorem aWO(c:Dc)(f:Int):aQ Tryz.prog 141 [] [.agg c.c,.int .i64 f] (.bool (decide (0≤f∧f< (c.fl.length:Int)))) []:=by
 by_cases e:0≤f
 ·by_cases e2:f< (c.fl.length:Int)
  ·rw [decide_eq_true (show 0≤f∧f< (c.fl.length:Int) from⟨e,e2⟩)]
   refine bM (ob0:= []) [] Tryz.func141 rfl rfl rfl rfl ?_
   exact eR
  ·rw [decide_eq_false (fun h=>e2 h.2)]
   refine bM (ob0:= []) [] Tryz.func141 rfl rfl rfl rfl ?_
   exact eR
 ·rw [decide_eq_false (fun h=>e h.1)]
  refine bM (ob0:= []) [] Tryz.func141 rfl rfl rfl rfl ?_
  exact eR
theorem xb(c:Dc):c.x.b=[.box [.sl 1 0 c.fl.length,.sl 2 0 c.fr.length,.lst 6 false (aW (c.zo.map vD)),.lst 3 false (bP c.gr),.sl 3 0 c.ls.length,.sl 4 0 c.ck.length,.lst 5 false (bQ c.pt)],.row 15 (bG c.fl),.row 9 (bE c.fr),.row 3 (cN c.ls),.row 1 (aJ c.ck)]:=rfl
def Dc.qO(c:Dc)(f p t:Nat)(z:List Zn)(g:List Gr)(m:Nat):Dc:=
 ⟨c.fl.set f (dG (c.fl.getD f aK) (dA (c.fl.getD f aK).E p (((m+1:Nat):Int),0))),c.fr.set m (some (qP c f p t)),z,g,c.ls.set t (aB7 (c.ls.getD t l0) ((m+1:Nat):Int) (aL9 c f p t)).1,c.ck,c.pt⟩
def aCU(c:Dc)(f p t:Nat)(pf:Int)(ur:Bool):Dc×Int×Int:=
 bif decide (0< ((c.fl.getD f aK).E p).1) then(c.x,0,5) else
 bif (cB c.gr t).2==0 then
  (bif (bX (c.zo.map fH) c.zo pf ur).2.2==0 then(c.qO f p t (bX (c.zo.map fH) c.zo pf ur).1 (cB c.gr t).1 ((bX (c.zo.map fH) c.zo pf ur).2.1-1).toNat,(bX (c.zo.map fH) c.zo pf ur).2.1,0) else(c.x,0,(bX (c.zo.map fH) c.zo pf ur).2.2))
 else(c.x,0,(cB c.gr t).2)
def qO(c:Dc)(f p t pf:Int)(ur:Bool):Dc×Int×Int:=bif inI c f p t pf then aCU c f.toNat p.toNat t.toNat pf ur else(c.x,0,2)
noncomputable def R40:aHJ Tryz.prog Tryz.f40 [] 6:=⟨_,_,_,_,_,_,_,rfl,rfl,rfl⟩
set_option maxHeartbeats 8000000 in
theorem bGJ(c:Dc)(h:Ok c)(f p t pf:Int)(ur:Bool)(hi:inI c f p t pf=false):aQ Tryz.prog 40 [] [.agg c.c,.int .i64 f,.int .i64 p,.int .i64 t,.int .i64 pf,.bool ur] (.tup [.agg c.x.c,.int .i64 0,.int .i64 2]) []:=by
 have k82:=aE6 c h
 have k141:=aWO c f
 unfold inI at hi
 have hi:=of_decide_eq_false hi
 by_cases a1:0≤f∧f< (c.fl.length:Int)
 ·rw [decide_eq_true a1] at k141
  by_cases b1:p<0
  ·refine bD R40 (ob0:= []) aV Tryz.func40 rfl rfl rfl ?_
   exact eR
  by_cases b2:8≤p
  ·refine bD R40 (ob0:= []) aV Tryz.func40 rfl rfl rfl ?_
   exact eR
  by_cases b3:t<0
  ·refine bD R40 (ob0:= []) aV Tryz.func40 rfl rfl rfl ?_
   exact eR
  by_cases b4:(c.gr.length:Int)≤t
  ·refine bD R40 (ob0:= []) aV Tryz.func40 rfl rfl rfl ?_
   exact eR
  by_cases b5:pf<0
  ·refine bD R40 (ob0:= []) aV Tryz.func40 rfl rfl rfl ?_
   exact eR
  have b6:(c.zo.length:Int)≤pf:=by omega
  refine bD R40 (ob0:= []) aV Tryz.func40 rfl rfl rfl ?_
  exact eR
 ·rw [decide_eq_false a1] at k141
  refine bD R40 (ob0:= []) aV Tryz.func40 rfl rfl rfl ?_
  exact eR
set_option maxHeartbeats 8000000 in
theorem bGK(c:Dc)(h:Ok c)(f p t pf:Nat)(ur:Bool)(hf:f<c.fl.length)(hp:p<8)(ht:t<c.gr.length)(hpf:pf<c.zo.length):
 aQ Tryz.prog 40 [] [.agg c.c,.int .i64 (f:Int),.int .i64 (p:Int),.int .i64 (t:Int),.int .i64 (pf:Int),.bool ur] (.tup [.agg (aCU c f p t (pf:Int) ur).1.c,.int .i64 (aCU c f p t (pf:Int) ur).2.1,.int .i64 (aCU c f p t (pf:Int) ur).2.2]) []:=by
 have k82:=aE6 c h
 have k141:=aD7 c f hf
 have kf:=h.file f hf
 have k138:=aNP c f p (by omega) h.sm hf kf.E kf.sup
 rw [vK] at k138
 have k142:=bF5 c.gr t ht h.gr
 have k109:=aZE c.zo false (pf:Int) ur h.smZ
 have hgf:=mV hf
 have htl:t<c.ls.length:=by rw [h.nl];exact ht
 have htk:t<c.ck.length:=by rw [h.nk];exact ht
 have hgl:=rT c.ls t htl
 have hgk:=bH1 htk
 have k143:=aT2 kf.E kf.sup p (by omega)
 have hck:=h.ck t
 have k150:=bF8 (c.ck.getD t 0) ((c.fl.getD f aK).E p).1 ((c.ls.getD t l0).A.length:Int) hck.1 hck.2
 have k144:=bF6
 have k146:=bF7
 have k145:=aZH (c.fl.getD f aK) kf.E p hp kf.blocks
 have hnr:=h.nr
 obtain⟨k0,k1,k2,k3,hfc,hcan⟩:=Df.cells kf.E
 generalize hq:aCU c f p t (pf:Int) ur=q
 unfold aCU at hq
 by_cases e1:0< ((c.fl.getD f aK).E p).1
 ·rw [decide_eq_true e1,cond_true] at hq
  rw [decide_eq_false (show ¬((c.fl.getD f aK).E p).1≤0 by omega),cond_false] at k138
  subst hq
  refine bD R40 (ob0:= []) aV Tryz.func40 rfl rfl rfl ?_
  exact eR
 rw [decide_eq_false e1,cond_false] at hq
 rw [decide_eq_true (show((c.fl.getD f aK).E p).1≤0 by omega),cond_true] at k138
 by_cases e2:(cB c.gr t).2=0
 ·rw [beq_iff_eq.2 e2,cond_true] at hq
  rw [e2] at k142
  by_cases e3:(bX (c.zo.map fH) c.zo (pf:Int) ur).2.2=0
  ·rw [beq_iff_eq.2 e3,cond_true] at hq
   have hsim:=aFO (p:=(pf:Int)) (u:=ur) (l:=c.zo) (eX.ex c.zo)
   obtain⟨m,m1,m2,m3⟩:=take_at h (by rw [←hsim.2];exact e3)
   rw [←hsim.2] at m2
   rw [e3,m2] at k109
   rw [m2,show(((m+1:Nat):Int)-1).toNat=m by omega] at hq
   have hE':bK (dA (c.fl.getD f aK).E p (((m+1:Nat):Int),0)):=kf.E.set (Nat.zero_lt_succ _) (fun _=>rfl)
   have k148:=aNQ kf.E kf.sup p (by omega) ((m+1:Nat):Int)
   have k149:=aZI (c.ls.getD t l0) ((m+1:Nat):Int) (aL9 c f p t) (h.smL t)
   have hput:=rS c.fl f _ hf kf.E hE'
   rw [iE c.fl f hf] at hput
   have hsetl:∀x:Ls,(cN c.ls).set t (aR 3 (c.ls.getD t l0).c 0 x.c)=cN (c.ls.set t x):=fun x=>aA3 c.ls t x
   have hsetu:(bE c.fr).set m (aR 9 fre.c 0 (qP c f p t).c)=bE (c.fr.set m (some (qP c f p t))):=by
    have :aR 9 fre.c 0 (qP c f p t).c=(qP c f p t).c:=rfl
    rw [this];unfold bE;rw [zC];rfl
   have hgu:(bE c.fr).getD m []=fre.c:=by rw [jM c.fr m m1,m3];rfl
   obtain⟨q0,q1,q2,q3,hcan'⟩:=bC hE'
   rw [hfc] at hgf hput k145
   rw [hcan] at k143
   rw [hcan,hcan'] at k148
   rw [hcan'] at hput
   subst hq
   unfold Dc.qO
   simp only [Dc.c]
   rw [←hput,←hsetu,←hsetl]
   unfold qP aIX
   unfold aL9 at k149⊢
   generalize eU (c.fl.getD f aK).blocks p=b at *
   generalize aVR (c.ck.getD t 0) ((c.fl.getD f aK).E p).1 ((c.ls.getD t l0).A.length:Int)=ac at *
   generalize(aB7 (c.ls.getD t l0) ((m+1:Nat):Int) ac).2=le at *
   generalize(aB7 (c.ls.getD t l0) ((m+1:Nat):Int) ac).1=l2 at *
   clear hsim
   generalize(bX (c.zo.map fH) c.zo (pf:Int) ur).1=z2 at *
   generalize(cB c.gr t).1=g2 at *
   have k147:=aT3 c.fr m m1 hnr (aW z2) (bP g2) (bQ c.pt) (bG c.fl) (cN c.ls) (aJ c.ck) c.fl.length c.ls.length c.ck.length
   rw [xb] at k82
   cases b with
   |true=>
    refine bD R40 (ob0:= []) aV Tryz.func40 rfl rfl rfl ?_
    exact eR
   |false=>
    refine bD R40 (ob0:= []) aV Tryz.func40 rfl rfl rfl ?_
    exact eR
  ·rw [beq_eq_false_iff_ne.2 e3,cond_false] at hq
   subst hq
   generalize bX (c.zo.map fH) c.zo (pf:Int) ur=x at *
   obtain⟨z2,zn,ze⟩:=x
   dsimp only at *
   refine bD R40 (ob0:= []) aV Tryz.func40 rfl rfl rfl ?_
   exact eR
 ·rw [beq_eq_false_iff_ne.2 e2,cond_false] at hq
  subst hq
  generalize cB c.gr t=x at *
  obtain⟨g2,ge⟩:=x
  dsimp only at *
  refine bD R40 (ob0:= []) aV Tryz.func40 rfl rfl rfl ?_
  exact eR
theorem bJ3(c:Dc)(h:Ok c)(f p t pf:Int)(ur:Bool):aQ Tryz.prog 40 [] [.agg c.c,.int .i64 f,.int .i64 p,.int .i64 t,.int .i64 pf,.bool ur] (.tup [.agg (qO c f p t pf ur).1.c,.int .i64 (qO c f p t pf ur).2.1,.int .i64 (qO c f p t pf ur).2.2]) []:=by
 unfold qO
 cases e:inI c f p t pf with
 |false=>exact bGJ c h f p t pf ur e
 |true=>
  unfold inI at e
  have e:=of_decide_eq_true e
  have :=bGK c h f.toNat p.toNat t.toNat pf.toNat ur (by omega) (by omega) (by omega) (by omega)
  rwa [show((f.toNat:Nat):Int)=f by omega,show((p.toNat:Nat):Int)=p by omega,show((t.toNat:Nat):Int)=t by omega,show((pf.toNat:Nat):Int)=pf by omega] at this
end Go.Proofs.YtmhapcbjjpadnaaGreat
