/- Caches. -/
import Derived.Test.YtmhapcbjjpadnaaGreatGI
import Derived.Test.YtmhapcbjjpadnaaGreatGH
import Derived.Test.YtmhapcbjjpadnaaGreatXRK
import Derived.Test.YtmhapcbjjpadnaaGreatG8
import Derived.Test.YtmhapcbjjpadnaaGreatGG
import Derived.Test.YtmhapcbjjpadnaaGreatK8
import Derived.Test.YtmhapcbjjpadnaaGreatXRN
set_option linter.unusedSimpArgs false
set_option linter.unusedVariables false
open Int renaming toNat_natCast→zH
open List renaming length_set→zA,length_append→zC,getD_eq_getElem?_getD→zF,take_of_length_le→zI,getElem?_eq_none→zJ,map_set→zL
open Nat renaming pow_lt_pow_right→zD,zero_le→zE,or_lt_two_pow→zG,le_refl→zK
set_option maxRecDepth 40000
namespace Go.Proofs.YtmhapcbjjpadnaaGreat
open Go Go.Sk Go.RowKit
set_option maxRecDepth 20000 in
set_option maxHeartbeats 1000000 in
theorem bC0(c:Dc)(n:Nat)(u:Us)(hc:SmD c)(h:nE (c.setU n u) n u):aN Tryz.prog 155 [] [.agg c.c,.int .i64 ((n+1:Nat):Int),.agg u.c] (.agg (c.put n u).o) (c.put n u).ob:=by
 have hn:n<c.fr.length:=by have :=h.at_;simpa [Dc.setU] using this
 have hs':SmD (c.setU n u):=⟨hc.fl,by show(c.fr.set n (some u)).length≤64;rw [zA];exact hc.fr,hc.gr,hc.ls,hc.ck⟩
 have k252:=aZU (c.setU n u) n u hs' h
 have k85:=aJZ c hc
 unfold Dc.put
 obtain⟨fl,fr,zo,gr,ls,ck,pt⟩:=c
 have hfr:=hc.fr
 dsimp only at hn hfr
 have hset:(aV fr).set n (aQ 9 ((aV fr).getD n []) 0 u.c)=aV (fr.set n (some u)):=by
  rw [cD fr n hn]
  have :aQ 9 (frC (fr.getD n none)) 0 u.c=u.c:=by cases fr.getD n none <;> rfl
  rw [this];unfold aV;rw [zL];rfl
 generalize hq:(Dc.setU ⟨fl,fr,zo,gr,ls,ck,pt⟩ n u).mark u=q at k252⊢
 obtain⟨fl2,fr2,zo2,gr2,ls2,ck2,pt2⟩:=q
 unfold Dc.o Dc.ob Dc.setU at k252
 unfold Dc.o Dc.ob
 dsimp only at k252⊢
 rw [zA,←hset] at k252
 refine aF (ob0:= []) [] Tryz.func155 rfl rfl rfl rfl ?_
 refine Wk ?_
 refine .inr ⟨fun _=>⟨[],_,_,_,k85,trivial,rfl,rfl,rfl,?_⟩,(by intro h;cases h)⟩
 refine Wk ?_
 rw [aO (n:=((n+1:Nat):Int)-1) (by omega) (by omega),show((n+1:Nat):Int)-1=(n:Int) by omega,show decide (0≤(n:Int)∧(n:Int)< (fr.length:Int))=true from decide_eq_true ⟨by omega,by omega⟩]
 refine Wk ?_
 rw [show 0+(n:Int).toNat=n by omega,show decide (n< (aV fr).length)=true from decide_eq_true (by rw [bO];exact hn)]
 refine Wk ?_
 refine .inr ⟨fun _=>⟨[3,4,5,6,7],_,_,_,k252,⟨rfl,rfl,rfl,rfl,rfl,trivial⟩,rfl,rfl,rfl,?_⟩,(by intro h;cases h)⟩
 refine Wk ?_
 try subst hk
 exact⟨[some 3,some 4,some 5,some 6,some 7],Cl,rfl,Cl,rfl,Cl⟩
theorem Ok.p155q {c:Dc} (h:Ok c) {n:Nat} {u u':Us} (hn:n<c.fr.length)(hu:c.fr.getD n none=some u)(hk:iD u'=iD u)(hp:eA u'.p)(hr:u'.rd<4)(hw:u'.wr<4):aN Tryz.prog 155 [] [.agg c.c,.int .i64 ((n+1:Nat):Int),.agg u'.c] (.agg (c.put n u').o) (c.put n u').ob:=by
 have k:=h.use n u hn hu
 have f:=h.file _ k.file
 simp only [iD,Prod.mk.injEq] at hk
 obtain⟨k1,k2,k3⟩:=hk
 refine bC0 c n u' h.sm ⟨by show n< (c.fr.set n (some u')).length;rw [zA];exact hn,aL _ _ _ _ hn,?_,?_,?_,?_,?_,hp,?_,hr,hw⟩
 ·rw [k1];exact k.file
 ·rw [k2];have :=k.page;omega
 ·show bG (c.fl.getD u'.file aR).E;rw [k1];exact f.E
 ·show sQ (c.fl.getD u'.file aR).E;rw [k1];exact f.sup
 ·show 0< ((c.fl.getD u'.file aR).E u'.page).1;rw [k1,k2,k.val];omega
 ·rw [k3];show u.ten<c.ls.length;rw [h.nl];exact k.ten
def kG(s:Nat):Nat×Nat:=bif s==1 then(0,1) else bif s==2 then(1,1) else(0,2)
theorem aZX(s:Nat):aN Tryz.prog 277 [] [.int .i64 (s:Int)] (.tup [.int .i64 ((kG s).1:Int),.int .i64 ((kG s).2:Int)]) []:=by
 unfold kG
 by_cases e1:s=1
 ·subst e1
  refine aJ (ob0:= []) [] Tryz.func277 rfl rfl rfl rfl ?_
  exact Wz
 ·rw [beq_eq_false_iff_ne.2 e1,cond_false]
  by_cases e2:s=2
  ·subst e2
   refine aJ (ob0:= []) [] Tryz.func277 rfl rfl rfl rfl ?_
   exact Wz
  ·rw [beq_eq_false_iff_ne.2 e2,cond_false]
   refine aJ (ob0:= []) [] Tryz.func277 rfl rfl rfl rfl ?_
   exact Wz
theorem bCQ(s:Int):aN Tryz.prog 356 [] [.int .i64 s] (.bool (decide (0≤s∧s<7))) []:=by
 have k:=aZI
 by_cases e1:0≤s
 ·by_cases e2:s<7
  ·rw [decide_eq_true (show 0≤s∧s<7 from⟨e1,e2⟩)]
   refine aJ (ob0:= []) [] Tryz.func356 rfl rfl rfl rfl ?_
   exact Wz
  ·rw [decide_eq_false (show ¬(0≤s∧s<7) by omega)]
   refine aJ (ob0:= []) [] Tryz.func356 rfl rfl rfl rfl ?_
   exact Wz
 ·rw [decide_eq_false (show ¬(0≤s∧s<7) by omega)]
  refine aJ (ob0:= []) [] Tryz.func356 rfl rfl rfl rfl ?_
  exact Wz
def psF(s:Int)(p:Nat):Int:=bif decide (0≤s∧s<7) then s*18+2+p*2 else -1
theorem bCT(s:Int)(p:Nat)(hp:p<8): -1≤psF s p∧psF s p≤1000:=by
 unfold psF
 by_cases e:0≤s∧s<7
 ·rw [decide_eq_true e,cond_true];omega
 ·rw [decide_eq_false e,cond_false];omega
theorem bCO(s:Int)(p:Nat)(hp:p<8):aN Tryz.prog 332 [] [.int .i64 s,.int .i64 (p:Int)] (.int .i64 (psF s p)) []:=by
 have k:=bCQ s
 unfold psF
 by_cases e:0≤s∧s<7
 ·rw [decide_eq_true e] at k
  rw [decide_eq_true e,cond_true]
  obtain⟨s,rfl⟩:∃t:Nat,s=(t:Int):=⟨s.toNat,by omega⟩
  have :(s:Int)*18+2+p*2=((s*18+2+p*2:Nat):Int):=by omega
  rw [this]
  exact bGP s p (by omega) hp
 ·rw [decide_eq_false e] at k
  rw [decide_eq_false e,cond_false]
  refine aJ (ob0:= []) [] Tryz.func332 rfl rfl rfl rfl ?_
  exact Wz
def aMF(dev ten sec cnt kind:Int)(d:ByteArray):V:=.agg [.int .i64 0,.int .i64 ten,.int .i64 dev,.int .i64 kind,.int .i64 sec,.int .i64 cnt,.str d,.bool false,.bool false,.int .i64 0]
set_option maxHeartbeats 2000000 in
theorem bG7(c:Dc)(h:Ok c)(m:Nat)(u:Us)(h1:m<c.fr.length)(h2:c.fr.getD m none=some u)(s:Nat):
 aN Tryz.prog 276 [] [.agg c.c,.int .i64 ((m+1:Nat):Int),.int .i64 (s:Int)] (aMF (c.fl.getD u.file aR).dev (u.ten:Int) (psF (c.fl.getD u.file aR).slot u.page+((kG s).1:Int)) ((kG s).2:Int) 0 ⟨#[]⟩) []:=by
 have hu:=h.use m u h1 h2
 have hgu:=nB h1 h2
 have hnr:=h.nr
 have hf:=hu.file
 have hgf:=qB hf
 obtain⟨k0,k1,k2,k3,hfc,-⟩:=Df.cells (h.file _ hf).E
 rw [hfc] at hgf
 have hp8:=hu.page
 have k277:=aZX s
 have k332:=bCO (c.fl.getD u.file aR).slot u.page hp8
 have hps:=bCT (c.fl.getD u.file aR).slot u.page hp8
 have hs1:(kG s).1≤1:=by unfold kG;cases(s==1)<;> cases(s==2)<;> decide
 generalize psF (c.fl.getD u.file aR).slot u.page=ps at *
 generalize kG s=sp at *
 unfold aMF
 refine aJ (ob0:= []) [] Tryz.func276 rfl rfl rfl rfl ?_
 exact Wz
def aRE(u:Us)(s:Nat):Us:=⟨u.file,u.page,aLE u.p s,u.ten,u.holds,u.rd,s⟩
def kR(c:Dc)(u:Us):Nat:=bif kZ (c.fl.getD u.file aR).blocks u.page then 3 else u.p.d
def aVR(c:Dc)(m:Nat)(u:Us):Dc:=(c.put m (aRE u (kR c u))).pts (c.pt.map (aBS ((m+1:Nat):Int)))
def aYX:V:=aMF 0 0 0 0 0 ⟨#[]⟩
theorem aGE {c:Dc} {u:Us} (h:eA u.p):kR c u<4:=by
 unfold kR
 have :=h.d
 cases kZ (c.fl.getD u.file aR).blocks u.page with
 |true=>rw [cond_true];omega
 |false=>rw [cond_false];exact this
theorem aXA {l:List Pt} (h:jV l=true)(f:Int):jV (l.map (aBS f))=true:=by
 obtain⟨c1,c2⟩:=(kT l).1 h
 have e1:∀x,dJ (aBS f x)=dJ x:=fun x=>by unfold aBS;cases(x.frame==f)<;> rfl
 have e2:∀x,dR (aBS f x)=dR x:=fun x=>by unfold aBS;cases(x.frame==f)<;> rfl
 refine(kT _).2 ⟨fun x hx=>?_,List.pairwise_map.2 (c2.imp fun h=>by rw [e1,e1];exact h)⟩
 obtain⟨y,hy,rfl⟩:=List.mem_map.1 hx
 rw [e2];exact c1 y hy
theorem aVS {c:Dc} (h:Ok c) {m:Nat} {u:Us} (h1:m<c.fr.length)(h2:c.fr.getD m none=some u):Ok (aVR c m u):=by
 have hu:=h.use m u h1 h2
 exact(h.put h1 h2 (u':=aRE u (kR c u)) rfl (aEU hu.pg (aGE hu.pg)) hu.holds hu.rd (aGE hu.pg)).pts (aXA h.pt _)
theorem bC5(c:Dc)(n:Int)(hc:SmD c)(hu:gJ c n=false):aN Tryz.prog 178 [] [.agg c.c,.int .i64 n] (.tup [.agg c.c,aYX,.int .i64 2]) []:=by
 have k70:=aA8 c n hc
 rw [hu] at k70
 refine aJ (ob0:= []) [] Tryz.func178 rfl rfl rfl rfl ?_
 exact Wz
theorem aT8(c:Dc)(h:Ok c)(m:Nat)(u:Us)(h1:m<c.fr.length)(h2:c.fr.getD m none=some u)(hb:u.wr≠0∨u.p.d=0):
 aN Tryz.prog 178 [] [.agg c.c,.int .i64 ((m+1:Nat):Int)] (.tup [.agg c.c,aYX,.int .i64 (bif u.wr==0 then 4 else 7)]) []:=by
 have k70:=h.use70 h1 h2
 have hgu:=nB h1 h2
 have hnr:=h.nr
 by_cases b:u.wr=0
 ·rw [beq_iff_eq.2 b,cond_true]
  have hd:u.p.d=0:=hb.resolve_left (fun e=>e b)
  refine aJ (ob0:= []) [] Tryz.func178 rfl rfl rfl rfl ?_
  exact Wz
 ·rw [beq_eq_false_iff_ne.2 b,cond_false]
  refine aJ (ob0:= []) [] Tryz.func178 rfl rfl rfl rfl ?_
  exact Wz
set_option maxHeartbeats 8000000 in
theorem bFL(c:Dc)(h:Ok c)(m:Nat)(u:Us)(h1:m<c.fr.length)(h2:c.fr.getD m none=some u)(hw:u.wr=0)(hd:u.p.d≠0):
 ∃x1 x2 x3 x4 x5 x6,aN Tryz.prog 178 [] [.agg c.c,.int .i64 ((m+1:Nat):Int)] (.tup [.agg (aVR c m u).c,aMF x1 x2 x3 x4 x5 x6,.int .i64 0]) []:=by
 have k70:=h.use70 h1 h2
 have hu:=h.use m u h1 h2
 have hgu:=nB h1 h2
 have hnr:=h.nr
 have hf:=hu.file
 have hgf:=qB hf
 have kf:=h.file _ hf
 obtain⟨k0,k1,k2,k3,hfc,-⟩:=Df.cells kf.E
 rw [hfc] at hgf
 have hp8:=hu.page
 have hsz:=hu.pg.size
 have hd4:=hu.pg.d
 have hs4:=aGE (c:=c) hu.pg
 have k276:=bG7 c h m u h1 h2 (kR c u)
 have k277:=aZX (kR c u)
 have k278:=bG8 u.p hu.pg (kR c u) hs4
 have k155:=h.p155 (u':=aRE u (kR c u)) h1 h2 rfl (aEU hu.pg hs4) hu.rd hs4
 have k279:=bG9 c.pt ((m+1:Nat):Int) h.pt h.ptl
 have hsp:(kG (kR c u)).1+(kG (kR c u)).2≤2:=by unfold kG;cases(kR c u==1)<;> cases(kR c u==2)<;> decide
 have hbl:=kf.blocks
 refine⟨(c.fl.getD u.file aR).dev,(u.ten:Int),psF (c.fl.getD u.file aR).slot u.page+((kG (kR c u)).1:Int),((kG (kR c u)).2:Int),2,u.p.b.extract ((kG (kR c u)).1*8) (((kG (kR c u)).1+(kG (kR c u)).2)*8),?_⟩
 generalize psF (c.fl.getD u.file aR).slot u.page=ps at *
 generalize kG (kR c u)=sp at *
 have hho:kZ (c.fl.getD u.file aR).blocks u.page=((((c.fl.getD u.file aR).blocks &&& 2^u.page:Nat):Int)==0):=rfl
 have h2p:2^u.page<2^8:=zD (by omega) hp8
 unfold aVR aRE at *
 unfold aMF at *
 cases hb:kZ (c.fl.getD u.file aR).blocks u.page with
 |true=>
  have hs:kR c u=3:=by unfold kR;rw [hb];rfl
  simp only [hs] at k276 k277 k278 k155 hs4 hsp⊢
  rw [hb] at hho
  generalize c.put m _=e at *
  refine aJ (ob0:= []) [] Tryz.func178 rfl rfl rfl rfl ?_
  exact Wz
 |false=>
  have hs:kR c u=u.p.d:=by unfold kR;rw [hb];rfl
  simp only [hs] at k276 k277 k278 k155 hs4 hsp⊢
  rw [hb] at hho
  generalize c.put m _=e at *
  refine aJ (ob0:= []) [] Tryz.func178 rfl rfl rfl rfl ?_
  exact Wz
end Go.Proofs.YtmhapcbjjpadnaaGreat
set_option maxRecDepth 40000
namespace Go.Proofs.YtmhapcbjjpadnaaGreat
open Go Go.Sk Go.RowKit
def fer(f:Df)(a b:Int):Df:=⟨f.dev,f.slot,f.E,f.size,f.blocks,a,b⟩
def onB(b p:Nat):Nat:=b ||| 2^p
def Dc.blo(c:Dc)(f p:Nat):Dc:=⟨c.fl.set f (fbl (c.fl.getD f aR) (onB (c.fl.getD f aR).blocks p)),c.fr,c.zo,c.gr,c.ls,c.ck,c.pt⟩
def Dc.ers(c:Dc)(f:Nat)(e:Int):Dc:=⟨c.fl.set f (fer (c.fl.getD f aR) (aAG (c.fl.getD f aR).ec (c.fl.getD f aR).ee e).1 (aAG (c.fl.getD f aR).ec (c.fl.getD f aR).ee e).2),c.fr,c.zo,c.gr,c.ls,c.ck,c.pt⟩
theorem Ok.fl1 {c:Dc} (h:Ok c) {f:Nat} (hf:f<c.fl.length) {x:Df} (hx:OkF x)(hE:x.E=(c.fl.getD f aR).E):Ok ⟨c.fl.set f x,c.fr,c.zo,c.gr,c.ls,c.ck,c.pt⟩:=by
 refine h.same (zA ..) (fun g q=>?_) (fun g hg=>?_) rfl (fun _=>rfl) (fun m v hm hv=>?_) rfl rfl rfl h.ls (fun _ _ hx=>hx) rfl h.pt
 ·show(((c.fl.set f x).getD g aR).E q).1=_
  by_cases e:g=f
  ·subst e;rw [aL _ _ _ _ hf,hE]
  ·rw [getD_set_ne _ _ _ e]
 ·show OkF ((c.fl.set f x).getD g aR)
  by_cases e:g=f
  ·subst e;rw [aL _ _ _ _ hf];exact hx
  ·rw [getD_set_ne _ _ _ e];exact h.file g hg
 ·have :=h.use m v hm hv
  exact⟨this.pg,this.holds,this.rd,this.wr⟩
theorem Ok.blo {c:Dc} (h:Ok c) {f p:Nat} (hf:f<c.fl.length)(hp:p<8):Ok (c.blo f p):=by
 have k:=h.file f hf
 exact h.fl1 hf ⟨k.E,k.sup,k.lo,k.size,zG (n:=8) k.blocks (zD (by omega) hp),k.ec,k.ee⟩ rfl
theorem aXR {a b e:Int} (h:0≤a∧a≤1000000)(h2:a=0↔b=0)(he:e≠0):(0≤(aAG a b e).1∧(aAG a b e).1≤1000000)∧((aAG a b e).1=0↔(aAG a b e).2=0):=by
 unfold aAG
 by_cases x:a=1000000
 ·rw [beq_iff_eq.2 x,cond_true];exact⟨h,h2⟩
 ·rw [beq_eq_false_iff_ne.2 x,cond_false]
  dsimp only
  exact⟨by omega,by omega⟩
theorem Ok.ers {c:Dc} (h:Ok c) {f:Nat} (hf:f<c.fl.length) {e:Int} (he:e≠0):Ok (c.ers f e):=by
 have k:=h.file f hf
 obtain⟨r1,r2⟩:=aXR k.ec k.ee he
 exact h.fl1 hf ⟨k.E,k.sup,k.lo,k.size,k.blocks,r1,r2⟩ rfl
theorem bHG {L:List Df} {f:Nat} {a b:Int} (h:f<L.length)(hE:bG (L.getD f aR).E):bM (L.set f (fer (L.getD f aR) a b))=(bM L).set f (aQ 15 (L.getD f aR).c 8 [.int .i64 a,.int .i64 b]):=by
 rw [bM,bM,zL]
 obtain⟨k0,k1,k2,k3,e,e3⟩:=Df.cells hE
 congr 1
 unfold Df.c fer
 dsimp only
 rw [e3]
 rfl
def vP(u:Us)(e:Int):Us:=⟨u.file,u.page,bif e==0 then u.p else aBC u.p u.wr,u.ten,u.holds,u.rd,0⟩
def aLP(c:Dc)(m:Nat)(u:Us)(e:Int):Dc:=bif e==0 then(c.put m (vP u e)).blo u.file u.page else(c.put m (vP u e)).ers u.file e
theorem aGK {u:Us} (h:eA u.p)(hw:u.wr<4)(e:Int):eA (vP u e).p:=by
 unfold vP
 cases(e==0) with
 |true=>exact h
 |false=>exact vA h hw
theorem aW5 {c:Dc} (h:Ok c) {m:Nat} {u:Us} (h1:m<c.fr.length)(h2:c.fr.getD m none=some u)(e:Int):Ok (aLP c m u e):=by
 have hu:=h.use m u h1 h2
 have hp:=h.put h1 h2 (u':=vP u e) rfl (aGK hu.pg hu.wr e) hu.holds hu.rd (by show 0<4;omega)
 have hf:u.file< (c.put m (vP u e)).fl.length:=by rw [sD];exact hu.file
 unfold aLP
 by_cases x:e=0
 ·rw [beq_iff_eq.2 x];exact hp.blo hf hu.page
 ·rw [beq_eq_false_iff_ne.2 x];exact hp.ers hf x
theorem bC3(c:Dc)(n e:Int)(hc:SmD c)(hu:gJ c n=false):aN Tryz.prog 177 [] [.agg c.c,.int .i64 n,.int .i64 e] (.tup [.agg c.c,.int .i64 2]) []:=by
 have k70:=aA8 c n hc
 rw [hu] at k70
 refine aJ (ob0:= []) [] Tryz.func177 rfl rfl rfl rfl ?_
 exact Wz
theorem bC2(c:Dc)(h:Ok c)(m:Nat)(u:Us)(h1:m<c.fr.length)(h2:c.fr.getD m none=some u)(hw:u.wr=0)(e:Int):
 aN Tryz.prog 177 [] [.agg c.c,.int .i64 ((m+1:Nat):Int),.int .i64 e] (.tup [.agg c.c,.int .i64 4]) []:=by
 have k70:=h.use70 h1 h2
 have hgu:=nB h1 h2
 have hnr:=h.nr
 refine aJ (ob0:= []) [] Tryz.func177 rfl rfl rfl rfl ?_
 exact Wz
set_option maxHeartbeats 8000000 in
theorem bFK(c:Dc)(h:Ok c)(m:Nat)(u:Us)(h1:m<c.fr.length)(h2:c.fr.getD m none=some u)(hw:u.wr≠0)(e:Int):
 aN Tryz.prog 177 [] [.agg c.c,.int .i64 ((m+1:Nat):Int),.int .i64 e] (.tup [.agg (aLP c m u e).c,.int .i64 0]) []:=by
 have k70:=h.use70 h1 h2
 have hu:=h.use m u h1 h2
 have hgu:=nB h1 h2
 have hnr:=h.nr
 have hf:=hu.file
 have hp8:=hu.page
 have k176:=aT7 u.p hu.pg u.wr hu.wr
 have k155:=h.p155q (u':=vP u e) h1 h2 rfl (aGK hu.pg hu.wr e) hu.rd (by show 0<4;omega)
 have o:=h.put h1 h2 (u':=vP u e) rfl (aGK hu.pg hu.wr e) hu.holds hu.rd (by show 0<4;omega)
 have hfe:u.file< (c.put m (vP u e)).fl.length:=by rw [sD];exact hf
 have h2p:2^u.page<2^8:=zD (by omega) hp8
 unfold aLP
 generalize hd:c.put m (vP u e)=d at *
 have kf:=o.file _ hfe
 have hgf:=qB hfe
 have hbl:=kf.blocks
 have hpb:=aU3 (b:=onB (d.fl.getD u.file aR).blocks u.page) hfe kf.E
 have hpe:=bHG (a:=(aAG (d.fl.getD u.file aR).ec (d.fl.getD u.file aR).ee e).1) (b:=(aAG (d.fl.getD u.file aR).ec (d.fl.getD u.file aR).ee e).2) hfe kf.E
 have hor:=zG (n:=8) hbl h2p
 have k275:=fun he=>bG6 (d.fl.getD u.file aR).ec (d.fl.getD u.file aR).ee e kf.ec.1 kf.ec.2 kf.ee he
 obtain⟨k0,k1,k2,k3,hfc,-⟩:=Df.cells kf.E
 rw [hfc] at hgf hpb hpe
 have hsm:=o.sm
 have g1:=hsm.fl
 have g2:=hsm.fr
 have g3:=hsm.gr
 have g4:=hsm.ls
 have g5:=hsm.ck
 unfold vP at k155
 by_cases x:e=0
 ·rw [beq_iff_eq.2 x,cond_true]
  rw [beq_iff_eq.2 x,cond_true] at k155
  subst x
  unfold Dc.blo
  simp only [Dc.c,hpb]
  unfold onB
  refine aJ (ob0:= []) [] Tryz.func177 rfl rfl rfl rfl ?_
  exact Wz
 ·rw [beq_eq_false_iff_ne.2 x,cond_false]
  rw [beq_eq_false_iff_ne.2 x,cond_false] at k155
  have k275:=k275 x
  unfold Dc.ers
  simp only [Dc.c,hpe]
  generalize aAG (d.fl.getD u.file aR).ec (d.fl.getD u.file aR).ee e=r at *
  refine aJ (ob0:= []) [] Tryz.func177 rfl rfl rfl rfl ?_
  exact Wz
end Go.Proofs.YtmhapcbjjpadnaaGreat
set_option maxRecDepth 40000
namespace Go.Proofs.YtmhapcbjjpadnaaGreat
open Go Go.Sk Go.RowKit
theorem draw(L:List Int) {J:Nat} (hL:(L.length:Int)<2^62)(hJ:J≤L.length)(n:Int)(h0:0<n)(h1:n<1000000000):
 ∃v J':Nat,(v:Int)<n∧J'≤L.length∧aN Tryz.prog 15 [jF L J] [.ptr 0 0 0,.int .i64 n] (.int .i64 (v:Int)) [jF L J']:=by
 have a:=aM4 L J n h0 (by omega)
 refine⟨(nxV L J n).toNat,nxI L J,by omega,aM2 L J hJ,?_⟩
 rw [show(((nxV L J n).toNat:Nat):Int)=nxV L J n by omega]
 exact aT5 L J n hL hJ h0 (by omega)
def eP(l:List (Option Us)):Nat→List Int
 |0=> []
 |k+1=>bif (l.getD k none).isSome then eP l k++ [((k+1:Nat):Int)] else eP l k
theorem aAN {l:List (Option Us)} :∀ {k:Nat} {x:Int},x∈eP l k→∃(m:Nat) (u:Us),x=((m+1:Nat):Int)∧m<k∧l.getD m none=some u
 |0,x,h=>by simp [eP] at h
 |k+1,x,h=>by
  rw [eP] at h
  cases e:l.getD k none with
  |none=>
   rw [e] at h
   obtain⟨m,u,h1,h2,h3⟩:=aAN (k:=k) h
   exact⟨m,u,h1,by omega,h3⟩
  |some u=>
   rw [e] at h
   rcases List.mem_append.1 h with h |h
   ·obtain⟨m,u,h1,h2,h3⟩:=aAN (k:=k) h
    exact⟨m,u,h1,by omega,h3⟩
   ·exact⟨k,u,List.mem_singleton.1 h,by omega,e⟩
theorem sH(l:List (Option Us)):∀k,(eP l k).length≤k
 |0=>zK 0
 |k+1=>by
  rw [eP]
  have :=sH l k
  cases(l.getD k none).isSome with
  |true=>rw [cond_true,zC,List.length_singleton];omega
  |false=>rw [cond_false];omega
theorem aAI(a:List Int)(x:Int):aE (a++ [x])=aE a++ [[.int .i64 x]]:=by simp [aE]
set_option maxHeartbeats 2000000 in
theorem aFL(c:Dc)(h:Ok c)(L:List Int) {J:Nat} (hL:(L.length:Int)<2^62)(hJ:J≤L.length):
 ∃(r:Int) (J':Nat),J'≤L.length∧(r=0∨∃(m:Nat) (u:Us),r=((m+1:Nat):Int)∧m<c.fr.length∧c.fr.getD m none=some u)∧
  aN Tryz.prog 281 [jF L J] [.ptr 0 0 0,.agg c.c] (.int .i64 r) [jF L J']:=by
 have hnr:=h.nr
 have hlen:=sH c.fr c.fr.length
 by_cases e:(eP c.fr c.fr.length).length=0
 ·refine⟨0,J,hJ,.inl rfl,?_⟩
  refine aJ (ob0:= [jF L J]) [] Tryz.func281 rfl rfl rfl rfl ?_
  refine Wx ?_
  refine Lp (fun i:Nat=>i≤c.fr.length) (fun i=> [(6,.int .i64 ((i+1:Nat):Int)),(5,.sl 2 0 (eP c.fr i).length)]) (fun i=> [(2,.row 1 (aE (eP c.fr i)))]) (fun i=>c.fr.length-i) 0 (zE _) ?_ ?_
  ·exact Vr [_,_,none]
  intro i hi
  have hul:=sH c.fr i
  have hst:eP c.fr (i+1)=bif (c.fr.getD i none).isSome then eP c.fr i++ [((i+1:Nat):Int)] else eP c.fr i:=rfl
  refine Wx ?_
  refine iN (fun b=>?_) (fun b=>?_)
  ·have b:i<c.fr.length:=by omega
   have hg:=cD c.fr i b
   generalize eP c.fr i=U at *
   cases hu:c.fr.getD i none with
   |none=>
    rw [hu] at hg hst
    have hg:(aV c.fr).getD i []=fre.c:=hg
    have hst:eP c.fr (i+1)=U:=hst
    refine Wx ?_
    refine Le (i+1) (hv:=?_)
    simp only [hst]
    exact Vr [_,_,_]
   |some u=>
    rw [hu] at hg hst
    have hg:(aV c.fr).getD i []=u.c:=hg
    have hst:eP c.fr (i+1)=U++ [((i+1:Nat):Int)]:=hst
    refine Wx ?_
    refine Le (i+1) (hv:=?_)
    simp only [hst,aAI]
    exact Vr [_,_,_]
  obtain rfl:i=c.fr.length:=by omega
  exact Wo
 ·obtain⟨v,J',hv,hJ',k15⟩:=draw L hL hJ ((eP c.fr c.fr.length).length:Int) (by omega) (by omega)
  have hv:v< (eP c.fr c.fr.length).length:=by omega
  have hg2:=aUK hv
  have hmem:(eP c.fr c.fr.length).getD v 0∈eP c.fr c.fr.length:=by
   rw [zF,List.getElem?_eq_getElem hv];exact List.getElem_mem hv
  obtain⟨m,u,m1,m2,m3⟩:=aAN hmem
  refine⟨(eP c.fr c.fr.length).getD v 0,J',hJ',.inr ⟨m,u,m1,m2,m3⟩,?_⟩
  refine aJ (ob0:= [jF L J]) [] Tryz.func281 rfl rfl rfl rfl ?_
  refine Wx ?_
  refine Lp (fun i:Nat=>i≤c.fr.length) (fun i=> [(6,.int .i64 ((i+1:Nat):Int)),(5,.sl 2 0 (eP c.fr i).length)]) (fun i=> [(2,.row 1 (aE (eP c.fr i)))]) (fun i=>c.fr.length-i) 0 (zE _) ?_ ?_
  ·exact Vr [_,_,none]
  intro i hi
  have hul:=sH c.fr i
  have hst:eP c.fr (i+1)=bif (c.fr.getD i none).isSome then eP c.fr i++ [((i+1:Nat):Int)] else eP c.fr i:=rfl
  refine Wx ?_
  refine iN (fun b=>?_) (fun b=>?_)
  ·have b:i<c.fr.length:=by omega
   have hg:=cD c.fr i b
   generalize eP c.fr i=U at *
   cases hu:c.fr.getD i none with
   |none=>
    rw [hu] at hg hst
    have hg:(aV c.fr).getD i []=fre.c:=hg
    have hst:eP c.fr (i+1)=U:=hst
    refine Wx ?_
    refine Le (i+1) (hv:=?_)
    simp only [hst]
    exact Vr [_,_,_]
   |some u=>
    rw [hu] at hg hst
    have hg:(aV c.fr).getD i []=u.c:=hg
    have hst:eP c.fr (i+1)=U++ [((i+1:Nat):Int)]:=hst
    refine Wx ?_
    refine Le (i+1) (hv:=?_)
    simp only [hst,aAI]
    exact Vr [_,_,_]
  obtain rfl:i=c.fr.length:=by omega
  exact Wo
def qN(f p:Nat)(i:Nat):List UInt8:=(List.range 16).map fun j=>bif decide (j<i) then UInt8.ofNat (65+(f*7+p*3+j)%26) else 0
theorem nN(f p i:Nat):(qN f p i).length=16:=by simp [qN]
theorem aPI(f p i:Nat)(hi:i<16):qN f p (i+1)=(qN f p i).set i (UInt8.ofNat (65+(f*7+p*3+i)%26)):=by
 apply List.ext_getElem?
 intro j
 by_cases hj:j<16
 ·rw [List.getElem?_set]
  by_cases e:i=j
  ·subst e
   rw [if_pos rfl,if_pos (by rw [nN];exact hj)]
   simp [qN,hj]
  ·rw [if_neg e]
   simp only [qN,List.getElem?_map,List.getElem?_range hj,Option.map_some]
   rw [show decide (j<i+1)=decide (j<i) by rw [decide_eq_decide];omega]
 ·rw [zJ (by rw [nN];omega),zJ (by rw [zA,nN];omega)]
def qO(f p:Nat):ByteArray:=⟨(qN f p 16).toArray⟩
end Go.Proofs.YtmhapcbjjpadnaaGreat
set_option maxRecDepth 40000
namespace Go.Proofs.YtmhapcbjjpadnaaGreat
open Go Go.Sk Go.RowKit
theorem aQJ(l:List UInt8)(i:Nat)(b:UInt8):(gY l).set i [.int .u8 (b.toNat:Int)]=gY (l.set i b):=by unfold gY;rw [zL]
theorem aPH(f p:Nat):gA (List.take 16 (List.drop 0 (gY (qN f p 16))))=some (qN f p 16):=by
 rw [List.drop_zero,zI (by rw [kN,nN];omega)];exact iQ _
theorem bI7 {n:Nat} (h:n<256):IntKind.u8.wrap (n:Int)=((UInt8.ofNat n).toNat:Int):=by
 rw [IntKind.wrap_u8,UInt8.toNat_ofNat'];omega
set_option maxHeartbeats 2000000 in
theorem aZB(f p:Nat)(hf:f≤100)(hp:p≤100):aN Tryz.prog 160 [] [.int .i64 (f:Int),.int .i64 (p:Int)] (.str (qO f p)) []:=by
 have hd:=aPH f p
 unfold qO
 refine aJ (ob0:= []) [] Tryz.func160 rfl rfl rfl rfl ?_
 refine Wx ?_
 refine Lp (fun i:Nat=>i≤16) (fun i=> [(10,.int .i64 (i:Int))]) (fun i=> [(0,.row 1 (gY (qN f p i)))]) (fun i=>16-i) 0 (zE _) ?_ ?_
 ·exact Vr [_]
 intro i hi
 have hl:=nN f p i
 have hrl:=kN (qN f p i)
 refine Wx ?_
 refine iN (fun b=>?_) (fun b=>?_)
 ·have hs:=aPI f p i (by omega)
  have hw:=bI7 (n:=65+(f*7+p*3+i)%26) (by omega)
  refine Wx ?_
  refine Le (i+1) (hv:=?_)
  simp only [hs,←aQJ,←hw]
  exact Vr [_]
 obtain rfl:i=16:=by omega
 exact Wz
def abc(v:Int):UInt8:=UInt8.ofNat (97+v.toNat)
def mR(L:List Int)(J:Nat):Nat→Nat×List UInt8
 |0=>(J,[])
 |k+1=>(nxI L (mR L J k).1,(mR L J k).2++ [abc (nxV L (mR L J k).1 8)])
theorem uA(L:List Int) {J:Nat} (hJ:J≤L.length):∀k,(mR L J k).1≤L.length∧(mR L J k).2.length=k
 |0=>⟨hJ,rfl⟩
 |k+1=>by
  obtain⟨h1,h2⟩:=uA L hJ k
  exact⟨aM2 L _ h1,by rw [mR,zC,h2];rfl⟩
def aII(L:List Int)(J n i:Nat):List (List V):=gY (mR L J i).2++List.replicate (n-i) [.int .u8 0]
theorem aIJ(L:List Int) {J:Nat} (hJ:J≤L.length) {n i:Nat} (h:i≤n):(aII L J n i).length=n:=by
 unfold aII
 rw [zC,kN,(uA L hJ i).2,List.length_replicate];omega
theorem aP9(L:List Int) {J:Nat} (hJ:J≤L.length) {n i:Nat} (h:i<n):aII L J n (i+1)=(aII L J n i).set i [.int .u8 ((abc (nxV L (mR L J i).1 8)).toNat:Int)]:=by
 have hl:=(uA L hJ i).2
 unfold aII
 rw [mR]
 obtain⟨k,hk⟩:∃k,n-i=k+1:=⟨n-i-1,by omega⟩
 rw [hk,show n- (i+1)=k by omega,List.replicate_succ,List.set_append,if_neg (by rw [kN,hl];omega),kN,hl,Nat.sub_self,List.set_cons_zero]
 simp [gY]
theorem aRG(L:List Int) {J:Nat} (hJ:J≤L.length)(n:Nat):gA (List.take n (List.drop 0 (aII L J n n)))=some (mR L J n).2:=by
 rw [List.drop_zero,zI (by rw [aIJ L hJ (zK n)];omega)]
 unfold aII
 rw [Nat.sub_self,List.replicate_zero,List.append_nil];exact iQ _
set_option maxHeartbeats 4000000 in
theorem bH8(L:List Int) {J:Nat} (hL:(L.length:Int)<2^62)(hJ:J≤L.length)(n:Nat)(hn:n≤1000):
 ∃(s:ByteArray) (J':Nat),s.size=n∧J'≤L.length∧aN Tryz.prog 48 [jF L J] [.ptr 0 0 0,.int .i64 (n:Int)] (.str s) [jF L J']:=by
 have hf:=uA L hJ n
 refine⟨⟨(mR L J n).2.toArray⟩,(mR L J n).1,by show(mR L J n).2.toArray.size=n;rw [List.size_toArray];exact hf.2,hf.1,?_⟩
 have hall:=aRG L hJ n
 refine aJ (ob0:= [jF L J]) [] Tryz.func48 rfl rfl rfl rfl ?_
 refine Wx ?_
 rw [mkT (by omega) (by omega)]
 refine Wx ?_
 refine Lp (fun i:Nat=>i≤n) (fun i=> [(11,.int .i64 (i:Int))]) (fun i=> [(0,jF L (mR L J i).1),(1,.row 1 (aII L J n i))]) (fun i=>n-i) 0 (zE _) ?_ ?_
 ·exact Vr [_,_]
 intro i hi
 have hl:=aIJ L hJ hi
 obtain⟨f1,f2⟩:=uA L hJ i
 refine Wx ?_
 refine iN (fun b=>?_) (fun b=>?_)
 ·have hs:=aP9 L hJ (show i<n by omega)
  have k15:=aT5 L (mR L J i).1 8 hL f1 (by decide) (by decide)
  have hv:=aM4 L (mR L J i).1 8 (by decide) (by decide)
  have hst:(mR L J (i+1)).1=nxI L (mR L J i).1:=rfl
  generalize nxV L (mR L J i).1 8=v at *
  generalize nxI L (mR L J i).1=J1 at *
  generalize(mR L J i).1=J0 at *
  have h8:v=0∨v=1∨v=2∨v=3∨v=4∨v=5∨v=6∨v=7:=by omega
  rcases h8 with rfl |rfl |rfl |rfl |rfl |rfl |rfl |rfl
  all_goals
   refine Wx ?_
   refine Le (i+1) (hv:=?_)
   simp only [hs,hst]
   exact Vr [_,_]
 obtain rfl:i=n:=by omega
 exact Wo
end Go.Proofs.YtmhapcbjjpadnaaGreat
set_option maxRecDepth 40000
namespace Go.Proofs.YtmhapcbjjpadnaaGreat
open Go Go.Sk Go.RowKit
def eN(c:Dc)(n:Int):Option (Nat×Us):=bif gJ c n then(c.fr.getD (n-1).toNat none).map fun u=>((n-1).toNat,u) else none
theorem bR(c:Dc)(n:Int):(eN c n=none∧gJ c n=false)∨∃(m:Nat) (u:Us),eN c n=some (m,u)∧n=((m+1:Nat):Int)∧m<c.fr.length∧c.fr.getD m none=some u:=by
 unfold eN
 rcases aMN c n with h | ⟨m,u,rfl,h1,h2⟩
 ·rw [h];exact .inl ⟨rfl,rfl⟩
 ·refine .inr ⟨m,u,?_,rfl,h1,h2⟩
  rw [jC h1 h2,show(((m+1:Nat):Int)-1).toNat=m by omega,h2];rfl
theorem Ok.goodS {c:Dc} (h:Ok c) {n:Nat} {u u':Us} (hn:n<c.fr.length)(hu:c.fr.getD n none=some u)(hk:iD u'=iD u)(hp:eA u'.p)(hr:u'.rd<4)(hw:u'.wr<4):nE (c.setU n u') n u':=by
 have k:=h.use n u hn hu
 have f:=h.file _ k.file
 simp only [iD,Prod.mk.injEq] at hk
 obtain⟨k1,k2,k3⟩:=hk
 refine⟨by show n< (c.fr.set n (some u')).length;rw [zA];exact hn,aL _ _ _ _ hn,?_,?_,?_,?_,?_,hp,?_,hr,hw⟩
 ·rw [k1];exact k.file
 ·rw [k2];have :=k.page;omega
 ·show bG (c.fl.getD u'.file aR).E;rw [k1];exact f.E
 ·show sQ (c.fl.getD u'.file aR).E;rw [k1];exact f.sup
 ·show 0< ((c.fl.getD u'.file aR).E u'.page).1;rw [k1,k2,k.val];omega
 ·rw [k3];show u.ten<c.ls.length;rw [h.nl];exact k.ten
def evG(c:Dc)(n:Int):Dc×Int:=match eN c n with
 |none=>(c,2)
 |some (m,u)=>bif kK u&&decide (u.p.d=0) then(c.evi m u,0) else(c,7)
theorem bAB(c:Dc)(h:Ok c)(n:Int):aN Tryz.prog 43 [] [.agg c.c,.int .i64 n] (.tup [.agg (evG c n).1.c,.int .i64 (evG c n).2]) []:=by
 unfold evG
 rcases bR c n with ⟨e,hu⟩| ⟨m,u,e,rfl,h1,h2⟩
 ·rw [e];exact bH3 c n h.sm hu
 ·rw [e]
  dsimp only
  have hu:=h.use m u h1 h2
  cases hi:(kK u&&decide (u.p.d=0)) with
  |false=>exact bH2 c m u h.sm h1 h2 hi
  |true=>
   have hi:=Bool.and_eq_true_iff.1 hi
   exact bJB c m u h.sm (h.good h1 h2) hu.ten h.gr h.smZ (h.smL _) h.pt h.ptl (by rw [h.nk];exact hu.ten) (h.ck _) hi.1 (of_decide_eq_true hi.2)
theorem aRY {c:Dc} (h:Ok c)(n:Int):Ok (evG c n).1:=by
 unfold evG
 rcases bR c n with ⟨e,hu⟩| ⟨m,u,e,rfl,h1,h2⟩
 ·rw [e];exact h
 ·rw [e]
  dsimp only
  cases(kK u&&decide (u.p.d=0)) with
  |false=>exact h
  |true=>exact h.evi h1 h2
def qX(c:Dc)(n k:Int):Dc×Int:=match eN c n with
 |none=>(c,2)
 |some (m,u)=>bif decide ((-255≤k∧k≤255)∧0≤(u.holds:Int)+k∧(u.holds:Int)+k≤255) then(c.put m (qY u ((u.holds:Int)+k).toNat),0) else(c,1)
theorem bAC(c:Dc)(h:Ok c)(n k:Int):aN Tryz.prog 45 [] [.agg c.c,.int .i64 n,.int .i64 k] (.tup [.agg (qX c n k).1.c,.int .i64 (qX c n k).2]) []:=by
 unfold qX
 rcases bR c n with ⟨e,hu⟩| ⟨m,u,e,rfl,h1,h2⟩
 ·rw [e];exact bH5 c n k h.sm hu
 ·rw [e]
  dsimp only
  have hu:=h.use m u h1 h2
  by_cases x:(-255≤k∧k≤255)∧0≤(u.holds:Int)+k∧(u.holds:Int)+k≤255
  ·rw [decide_eq_true x]
   exact bJD c m u h.sm (h.good h1 h2) hu.holds k x.1 x.2.1 x.2.2 (h.goodS h1 h2 rfl hu.pg hu.rd hu.wr)
  ·rw [decide_eq_false x]
   exact bH4 c m u h.sm (h.good h1 h2) hu.holds k x
theorem aNC {c:Dc} (h:Ok c)(n k:Int):Ok (qX c n k).1:=by
 unfold qX
 rcases bR c n with ⟨e,hu⟩| ⟨m,u,e,rfl,h1,h2⟩
 ·rw [e];exact h
 ·rw [e]
  dsimp only
  have hu:=h.use m u h1 h2
  by_cases x:(-255≤k∧k≤255)∧0≤(u.holds:Int)+k∧(u.holds:Int)+k≤255
  ·rw [decide_eq_true x]
   exact h.put h1 h2 rfl hu.pg (by show((u.holds:Int)+k).toNat≤255;omega) hu.rd hu.wr
  ·rw [decide_eq_false x];exact h
def rbG(c:Dc)(n k:Int):Dc×Int:=match eN c n with
 |none=>(c,2)
 |some (m,u)=>bif decide ((1≤k∧k≤3)∧k.toNat &&& (u.p.v ||| u.rd)=0) then(c.put m (sW u (u.rd ||| k.toNat)),0) else(c,1)
theorem or4 {a b:Nat} (ha:a<4)(hb:b<4):a ||| b<4:=zG (n:=2) ha hb
theorem aO0(c:Dc)(h:Ok c)(n k:Int):aN Tryz.prog 47 [] [.agg c.c,.int .i64 n,.int .i64 k] (.tup [.agg (rbG c n k).1.c,.int .i64 (rbG c n k).2]) []:=by
 unfold rbG
 rcases bR c n with ⟨e,hu⟩| ⟨m,u,e,rfl,h1,h2⟩
 ·rw [e];exact bH7 c n k h.sm hu
 ·rw [e]
  dsimp only
  have hu:=h.use m u h1 h2
  by_cases x:(1≤k∧k≤3)∧k.toNat &&& (u.p.v ||| u.rd)=0
  ·rw [decide_eq_true x]
   obtain⟨k,rfl⟩:∃j:Nat,k=(j:Int):=⟨k.toNat,by omega⟩
   rw [zH] at *
   exact bJF c m u h.sm (h.good h1 h2) k (by omega) x.2 (h.goodS h1 h2 rfl hu.pg (or4 hu.rd (by omega)) hu.wr)
  ·rw [decide_eq_false x]
   exact bH6 c m u h.sm (h.good h1 h2) k x
theorem aAE {c:Dc} (h:Ok c)(n k:Int):Ok (rbG c n k).1:=by
 unfold rbG
 rcases bR c n with ⟨e,hu⟩| ⟨m,u,e,rfl,h1,h2⟩
 ·rw [e];exact h
 ·rw [e]
  dsimp only
  have hu:=h.use m u h1 h2
  by_cases x:(1≤k∧k≤3)∧k.toNat &&& (u.p.v ||| u.rd)=0
  ·rw [decide_eq_true x]
   exact h.put h1 h2 rfl hu.pg hu.holds (or4 hu.rd (by omega)) hu.wr
  ·rw [decide_eq_false x];exact h
def reG(c:Dc)(n:Int)(d:ByteArray)(ok:Bool):Dc×Int:=match eN c n with
 |none=>(c,2)
 |some (m,u)=>sX c m u d ok
theorem aO1(c:Dc)(h:Ok c)(n:Int)(d:ByteArray)(ok:Bool):aN Tryz.prog 50 [] [.agg c.c,.int .i64 n,.str d,.bool ok] (.tup [.agg (reG c n d ok).1.c,.int .i64 (reG c n d ok).2]) []:=by
 unfold reG
 rcases bR c n with ⟨e,hu⟩| ⟨m,u,e,rfl,h1,h2⟩
 ·rw [e];exact bH9 c n d ok h.sm hu
 ·rw [e];exact bJH c h m u h1 h2 d ok
theorem aME {c:Dc} (h:Ok c)(n:Int)(d:ByteArray)(ok:Bool):Ok (reG c n d ok).1:=by
 unfold reG
 rcases bR c n with ⟨e,hu⟩| ⟨m,u,e,rfl,h1,h2⟩
 ·rw [e];exact h
 ·rw [e];exact aUF h h1 h2 d ok
def bgG(c:Dc)(n:Int):Dc×Int:=match eN c n with
 |none=>(c,2)
 |some (m,u)=>bif u.wr==0 then(bif u.p.d==0 then(c,4) else(aVR c m u,0)) else(c,7)
theorem bC4(c:Dc)(h:Ok c)(n:Int):∃x1 x2 x3 x4 x5 x6,aN Tryz.prog 178 [] [.agg c.c,.int .i64 n] (.tup [.agg (bgG c n).1.c,aMF x1 x2 x3 x4 x5 x6,.int .i64 (bgG c n).2]) []:=by
 unfold bgG
 rcases bR c n with ⟨e,hu⟩| ⟨m,u,e,rfl,h1,h2⟩
 ·rw [e];exact⟨_,_,_,_,_,_,bC5 c n h.sm hu⟩
 ·rw [e]
  dsimp only
  by_cases x:u.wr=0
  ·by_cases y:u.p.d=0
   ·have :=aT8 c h m u h1 h2 (.inr y)
    rw [beq_iff_eq.2 x,beq_iff_eq.2 y]
    rw [beq_iff_eq.2 x] at this
    exact⟨_,_,_,_,_,_,this⟩
   ·rw [beq_iff_eq.2 x,beq_eq_false_iff_ne.2 y]
    exact bFL c h m u h1 h2 x y
  ·have :=aT8 c h m u h1 h2 (.inl x)
   rw [beq_eq_false_iff_ne.2 x]
   rw [beq_eq_false_iff_ne.2 x] at this
   exact⟨_,_,_,_,_,_,this⟩
theorem bAX {c:Dc} (h:Ok c)(n:Int):Ok (bgG c n).1:=by
 unfold bgG
 rcases bR c n with ⟨e,hu⟩| ⟨m,u,e,rfl,h1,h2⟩
 ·rw [e];exact h
 ·rw [e]
  dsimp only
  cases(u.wr==0) with
  |false=>exact h
  |true=>
   cases(u.p.d==0) with
   |true=>exact h
   |false=>exact aVS h h1 h2
def enG(c:Dc)(n e:Int):Dc×Int:=match eN c n with
 |none=>(c,2)
 |some (m,u)=>bif u.wr==0 then(c,4) else(aLP c m u e,0)
theorem aM5(c:Dc)(h:Ok c)(n e:Int):aN Tryz.prog 177 [] [.agg c.c,.int .i64 n,.int .i64 e] (.tup [.agg (enG c n e).1.c,.int .i64 (enG c n e).2]) []:=by
 unfold enG
 rcases bR c n with ⟨x,hu⟩| ⟨m,u,x,rfl,h1,h2⟩
 ·rw [x];exact bC3 c n e h.sm hu
 ·rw [x]
  dsimp only
  by_cases y:u.wr=0
  ·rw [beq_iff_eq.2 y];exact bC2 c h m u h1 h2 y e
  ·rw [beq_eq_false_iff_ne.2 y];exact bFK c h m u h1 h2 y e
theorem bB3 {c:Dc} (h:Ok c)(n e:Int):Ok (enG c n e).1:=by
 unfold enG
 rcases bR c n with ⟨x,hu⟩| ⟨m,u,x,rfl,h1,h2⟩
 ·rw [x];exact h
 ·rw [x]
  dsimp only
  cases(u.wr==0) with
  |true=>exact h
  |false=>exact aW5 h h1 h2 e
def aBY(c:Dc)(f off:Int)(s:ByteArray):Dc×Int:=bif lR c f off s.size then vF c f.toNat off.toNat s else(c,2)
theorem bHA(c:Dc)(h:Ok c)(f off:Int)(s:ByteArray)(hs:s.size≤1000000):aN Tryz.prog 57 [] [.agg c.c,.int .i64 f,.int .i64 off,.str s] (.tup [.agg (aBY c f off s).1.c,.int .i64 (aBY c f off s).2]) []:=by
 unfold aBY
 cases hr:lR c f off s.size with
 |true=>
  obtain⟨f,off,n,rfl,rfl,e,hf,hb⟩:=iW hr
  have :n=s.size:=by omega
  subst this
  exact bJK c h f off s hf hb
 |false=>
  have k115:=aSA c f
  have k125:=uR off (s.size:Int)
  unfold lR at hr
  rw [cond_false]
  cases hd:decide (0≤f∧f< (c.fl.length:Int)) with
  |false=>
   rw [hd] at k115
   refine aJ (ob0:= []) [] Tryz.func57 rfl rfl rfl rfl ?_
   exact Wz
  |true=>
   rw [hd,cond_true] at hr
   rw [hd] at k115
   rw [hr] at k125
   refine aJ (ob0:= []) [] Tryz.func57 rfl rfl rfl rfl ?_
   exact Wz
theorem aV9 {c:Dc} (h:Ok c) {f off:Nat} {s:ByteArray} (hf:f<c.fl.length)(hb:off+s.size≤128):Ok (vF c f off s).1:=by
 unfold vF
 cases(s.size==0) with
 |true=>exact h
 |false=>
  rw [cond_false]
  obtain⟨o1,o2,o3,o4⟩:=sG h ((off+s.size:Nat):Int) hf
  obtain⟨w1,w2,w3⟩:=aAO o1 (s:=s) (off:=off) (show f< (cP c f ((off+s.size:Nat):Int)).1.fl.length by rw [o2];exact hf) hb _ (zK _)
  have hfe:f< (wrL (cP c f ((off+s.size:Nat):Int)).1 f off s (cnt off s.size)).fl.length:=by rw [w2,o2];exact hf
  have hsz:=(w1.file f hfe).size
  cases jB c f off s.size true (cnt off s.size) with
  |none=>exact h
  |some L=>
   dsimp only
   cases((cP c f ((off+s.size:Nat):Int)).2==4) with
   |true=>exact h
   |false=>
    rw [cond_false]
    cases(L.isEmpty&&(cP c f ((off+s.size:Nat):Int)).2==0) with
    |false=>exact h
    |true=>exact w1.sz hfe (by omega)
theorem aYF {c:Dc} (h:Ok c)(f off:Int)(s:ByteArray):Ok (aBY c f off s).1:=by
 unfold aBY
 cases hr:lR c f off s.size with
 |false=>exact h
 |true=>
  obtain⟨f,off,n,rfl,rfl,e,hf,hb⟩:=iW hr
  exact aV9 h hf (by omega)
structure Sh(c d:Dc):Prop where
 fl:d.fl.length=c.fl.length
 fr:d.fr.length=c.fr.length
 zo:d.zo.length=c.zo.length
 gr:d.gr.length=c.gr.length
theorem Sh.refl(c:Dc):Sh c c:=⟨rfl,rfl,rfl,rfl⟩
theorem Sh.trans {a b c:Dc} (h:Sh a b)(k:Sh b c):Sh a c:=⟨k.fl.trans h.fl,k.fr.trans h.fr,k.zo.trans h.zo,k.gr.trans h.gr⟩
theorem aPO(l:List Zn)(f:Int):(dW l l f).1.length=l.length:=by
 unfold dW
 cases bB l with
 |false=>rfl
 |true=>
  cases decide (dI (inG f) l<0) with
  |true=>rfl
  |false=>
   cases vW (l.getD (dI (inG f) l).toNat fQ).free f with
   |true=>rfl
   |false=>exact zA ..
theorem aQV(g:List Gr)(t:Nat):(fP g t).1.length=g.length:=by
 unfold fP
 cases decide ((g.getD t g0).chg<1) with
 |true=>rfl
 |false=>exact qL _ _ _
theorem aIK(g:List Gr)(t:Nat):(cA g t).1.length=g.length:=by
 unfold cA
 cases decide ((g.getD t g0).lim- (g.getD t g0).chg<1) with
 |true=>rfl
 |false=>exact qL _ _ _
theorem Sh.put(c:Dc)(m:Nat)(u:Us):Sh c (c.put m u):=⟨zA ..,zA ..,rfl,rfl⟩
theorem Sh.pts(c:Dc)(l:List Pt):Sh c (c.pts l):=⟨rfl,rfl,rfl,rfl⟩
theorem Sh.acc(c:Dc)(m t:Nat):Sh c (c.acc m t):=⟨rfl,rfl,rfl,rfl⟩
theorem Sh.gone(c:Dc)(m:Nat)(u:Us)(v:Int):Sh c (c.gone m u v):=⟨zA ..,zA ..,aPO _ _,aQV _ _⟩
theorem Sh.evi(c:Dc)(m:Nat)(u:Us):Sh c (c.evi m u):=
 have k:=Sh.gone c m u (0- (c.ck.getD u.ten 0+1))
 ⟨k.fl,k.fr,k.zo,k.gr⟩
theorem Sh.ins(c:Dc)(f p t:Nat) {z:List Zn} {g:List Gr} (m:Nat)(hz:z.length=c.zo.length)(hg:g.length=c.gr.length):Sh c (c.ins f p t z g m):=⟨zA ..,zA ..,hz,hg⟩
theorem Sh.fl1(c:Dc)(f:Nat)(x:Df):Sh c ⟨c.fl.set f x,c.fr,c.zo,c.gr,c.ls,c.ck,c.pt⟩:=⟨zA ..,rfl,rfl,rfl⟩
theorem Sh.wi1(c:Dc)(f off n p:Nat):Sh c (aBW c f off n p):=by
 unfold aBW
 cases isW c f off n p with
 |true=>
  cases gV c f p with
  |none=>exact(Sh.fl1 c _ _).trans (Sh.fl1 _ _ _)
  |some x=>exact(Sh.gone c _ _ _).trans (Sh.fl1 _ _ _)
 |false=>
  cases gV c f p with
  |none=>exact Sh.refl c
  |some x=>exact Sh.put c _ _
theorem Sh.wiL(c:Dc)(f off n:Nat):∀k,Sh c (sP c f off n k)
 |0=>Sh.refl c
 |k+1=>(Sh.wiL c f off n k).trans (Sh.wi1 _ _ _ _ _)
theorem Sh.soi(c:Dc)(f:Nat)(e:Int):Sh c (cP c f e).1:=by
 unfold cP
 split
 ·exact Sh.refl c
 ·split
  ·exact Sh.refl c
  ·cases(jE false _ _==0) with
   |true=>exact Sh.put c _ _
   |false=>exact Sh.refl c
theorem Sh.wr_(c:Dc)(f off:Nat)(s:ByteArray):∀k,Sh c (wrL c f off s k)
 |0=>Sh.refl c
 |k+1=>by
  have ih:=Sh.wr_ c f off s k
  rw [wrL]
  split
  ·exact(ih.trans (Sh.put _ _ _)).trans (Sh.acc _ _ _)
  ·exact ih
theorem Sh.writ(c:Dc)(f off:Int)(s:ByteArray):Sh c (aBY c f off s).1:=by
 unfold aBY
 cases lR c f off s.size with
 |false=>exact Sh.refl c
 |true=>
  rw [cond_true]
  unfold vF
  cases(s.size==0) with
  |true=>exact Sh.refl c
  |false=>
   rw [cond_false]
   cases jB c f.toNat off.toNat s.size true (cnt off.toNat s.size) with
   |none=>exact Sh.refl c
   |some L=>
    dsimp only
    cases((cP c f.toNat ((off.toNat+s.size:Nat):Int)).2==4) with
    |true=>exact Sh.refl c
    |false=>
     rw [cond_false]
     cases(L.isEmpty&&(cP c f.toNat ((off.toNat+s.size:Nat):Int)).2==0) with
     |false=>exact Sh.refl c
     |true=>exact((Sh.soi c _ _).trans (Sh.wr_ _ _ _ _ _)).trans (Sh.fl1 _ _ _)
theorem Sh.ev(c:Dc)(n:Int):Sh c (evG c n).1:=by
 unfold evG
 split
 ·exact Sh.refl c
 ·rename_i m u e
  cases(kK u&&decide (u.p.d=0)) with
  |false=>exact Sh.refl c
  |true=>exact Sh.evi c m u
theorem Sh.hol(c:Dc)(n k:Int):Sh c (qX c n k).1:=by
 unfold qX
 split
 ·exact Sh.refl c
 ·rename_i m u e
  cases decide ((-255≤k∧k≤255)∧0≤(u.holds:Int)+k∧(u.holds:Int)+k≤255) with
  |false=>exact Sh.refl c
  |true=>exact Sh.put c _ _
theorem Sh.rb(c:Dc)(n k:Int):Sh c (rbG c n k).1:=by
 unfold rbG
 split
 ·exact Sh.refl c
 ·rename_i m u e
  cases decide ((1≤k∧k≤3)∧k.toNat &&& (u.p.v ||| u.rd)=0) with
  |false=>exact Sh.refl c
  |true=>exact Sh.put c _ _
theorem Sh.re(c:Dc)(n:Int)(d:ByteArray)(ok:Bool):Sh c (reG c n d ok).1:=by
 unfold reG
 split
 ·exact Sh.refl c
 ·rename_i m u e
  unfold sX
  cases(u.rd==0) with
  |true=>exact Sh.refl c
  |false=>
   cases(ok&&decide (d.size≠16)) with
   |true=>exact Sh.refl c
   |false=>exact Sh.put c _ _
theorem Sh.bg(c:Dc)(n:Int):Sh c (bgG c n).1:=by
 unfold bgG
 split
 ·exact Sh.refl c
 ·rename_i m u e
  cases(u.wr==0) with
  |false=>exact Sh.refl c
  |true=>
   cases(u.p.d==0) with
   |true=>exact Sh.refl c
   |false=>exact(Sh.put c _ _).trans (Sh.pts _ _)
theorem Sh.en(c:Dc)(n e:Int):Sh c (enG c n e).1:=by
 unfold enG
 split
 ·exact Sh.refl c
 ·rename_i m u x
  cases(u.wr==0) with
  |true=>exact Sh.refl c
  |false=>
   rw [cond_false]
   unfold aLP
   cases(e==0) with
   |true=>exact(Sh.put c _ _).trans (Sh.fl1 _ _ _)
   |false=>exact(Sh.put c _ _).trans (Sh.fl1 _ _ _)
theorem Sh.gF(c:Dc)(f p t pf:Int)(ur:Bool):Sh c (gF c f p t pf ur).1:=by
 unfold Go.Proofs.YtmhapcbjjpadnaaGreat.gF
 cases inI c f p t pf with
 |false=>exact Sh.refl c
 |true=>
  rw [cond_true]
  unfold eC
  cases decide (0< ((c.fl.getD f.toNat aR).E p.toNat).1) with
  |true=>exact Sh.refl c
  |false=>
   rw [cond_false]
   cases((cA c.gr t.toNat).2==0) with
   |false=>exact Sh.refl c
   |true=>
    rw [cond_true]
    cases((bX c.zo c.zo pf ur).2.2==0) with
    |false=>exact Sh.refl c
    |true=>exact Sh.ins c _ _ _ _ aQT (aIK _ _)
theorem Sh.ent(c:Dc)(pr pg f a:Int)(w:Bool):Sh c (vR c pr pg f a w).1:=by
 unfold vR
 cases inE c pr pg f a with
 |false=>exact Sh.refl c
 |true=>
  rw [cond_true]
  unfold aPJ
  cases decide ((c.fl.getD f.toNat aR).size≤a.toNat*16) with
  |true=>exact Sh.refl c
  |false=>
   rw [cond_false]
   split
   ·exact Sh.refl c
   ·rename_i m u e
    cases(decide (u.p.v≠3)||(w&&decide (u.wr≠0))) with
    |true=>exact Sh.refl c
    |false=>exact((Sh.put c _ _).trans (Sh.acc _ _ _)).trans (Sh.pts _ _)
theorem Sh.pun(c:Dc)(f off n:Int):Sh c (aAC c f off n).1:=by
 unfold aAC
 cases lR c f off n with
 |false=>exact Sh.refl c
 |true=>
  rw [cond_true]
  unfold aQ8
  cases(fM c f.toNat off.toNat (fD c f.toNat off.toNat n.toNat) (cnt off.toNat (fD c f.toNat off.toNat n.toNat))).2.2 with
  |false=>exact Sh.refl c
  |true=>exact Sh.wiL c _ _ _ _
theorem Sh.trn(c:Dc)(f z:Int):Sh c (rN c f z).1:=by
 unfold rN
 cases lR c f z 0 with
 |false=>exact Sh.refl c
 |true=>
  rw [cond_true]
  unfold aQU
  cases((cP c f.toNat (z.toNat:Int)).2==0) with
  |false=>exact Sh.refl c
  |true=>
   rw [cond_true]
   cases(fM c f.toNat z.toNat (fD c f.toNat z.toNat (128-z.toNat)) (cnt z.toNat (fD c f.toNat z.toNat (128-z.toNat)))).2.2 with
   |false=>exact Sh.refl c
   |true=>exact((Sh.soi c _ _).trans (Sh.wiL _ _ _ _ _)).trans (Sh.fl1 _ _ _)
end Go.Proofs.YtmhapcbjjpadnaaGreat
set_option maxRecDepth 40000
namespace Go.Proofs.YtmhapcbjjpadnaaGreat
open Go Go.Sk Go.RowKit
set_option maxHeartbeats 1000000 in
theorem bHD(off n:Nat)(h:1≤n)(h2:off+n≤128):aN Tryz.prog 66 [] [.int .i64 (off:Int),.int .i64 (n:Int)] (.sl 0 0 (sN off n)) [.row 1 (pgR (off/16) (sN off n))]:=by
 have k125:=uR (off:Int) (n:Int)
 rw [tE h2] at k125
 have e:sN off n=(off+n+15)/16-off/16:=rfl
 have hc:=oO h2
 unfold cnt at hc
 rw [decide_eq_false (show ¬n=0 by omega),cond_false] at hc
 refine aJ (ob0:= []) [] Tryz.func66 rfl rfl rfl rfl ?_
 refine Wx ?_
 refine Lp (fun i:Nat=>i≤sN off n) (fun i=> [(6,.int .i64 ((off/16+i:Nat):Int)),(5,.sl 0 0 i)]) (fun i=> [(0,.row 1 (pgR (off/16) i))]) (fun i=>sN off n-i) 0 (zE _) ?_ ?_
 ·exact Vr [none]
 intro i hi
 refine Wx ?_
 refine iN (fun b=>?_) (fun b=>?_)
 ·refine Wx ?_
  refine Le (i+1) (hv:=?_)
  simp only [aK1]
  exact Vr [_]
 obtain rfl:i=sN off n:=by omega
 exact Wo
def uX(c:Dc)(f:Nat)(off n:Int):List Int:=(bif decide (1≤n)&&kS off n then(List.range' (off.toNat/16) (sN off.toNat n.toNat)).map (fun x:Nat=>(x:Int)) else [])++(match mN (c.fl.getD f aR) (off+n) with |some (p,_)=> [(p:Int)] |none=> [])
theorem aXQ {c:Dc} (h:Ok c) {f:Nat} (hf:f<c.fl.length)(off n:Int):(uX c f off n).length≤9∧∀x∈uX c f off n,∃p:Nat,x=(p:Int)∧p<8:=by
 unfold uX
 have ht:∀(o:Option (Nat×Nat)),mN (c.fl.getD f aR) (off+n)=o→(match o with |some (p,_)=> [(p:Int)] |none=> []).length≤1∧∀x∈(match o with |some (p,_)=> [(p:Int)] |none=> []),∃p:Nat,x=(p:Int)∧p<8:=by
  intro o ho
  cases o with
  |none=>exact⟨zE _,fun x hx=>by cases hx⟩
  |some y=>
   obtain⟨p,s⟩:=y
   obtain⟨t1,-⟩:=tV ho (h.file f hf).size
   exact⟨zK _,fun x hx=>⟨p,List.mem_singleton.1 hx,t1⟩⟩
 obtain⟨t1,t2⟩:=ht _ rfl
 cases hd:(decide (1≤n)&&kS off n) with
 |false=>
  rw [cond_false]
  exact⟨by rw [List.nil_append];omega,fun x hx=>t2 x (by simpa using hx)⟩
 |true=>
  rw [cond_true]
  have hd:=Bool.and_eq_true_iff.1 hd
  have h1:=of_decide_eq_true hd.1
  obtain⟨a,b,rfl,rfl,hb⟩:=aLA hd.2
  rw [zH,zH]
  have hc:=oO hb
  unfold cnt at hc
  rw [decide_eq_false (show ¬b=0 by omega),cond_false] at hc
  refine⟨by rw [zC,List.length_map,List.length_range'];omega,fun x hx=>?_⟩
  rcases List.mem_append.1 hx with hx |hx
  ·obtain⟨y,hy,rfl⟩:=List.mem_map.1 hx
   rw [List.mem_range'_1] at hy
   exact⟨y,rfl,by omega⟩
  ·exact t2 x hx
def aHM(d:Dc)(f:Nat)(p:Int)(n:Int):Dc:=match eN d n with
 |none=>d
 |some (m,u)=>bif !(jE false 3 (u.p.v ||| u.rd)==0)&&u.rd==0 then(reG (rbG d n (jE false 3 (u.p.v ||| u.rd):Nat)).1 n (qO f p.toNat) true).1 else d
def aMC(c:Dc)(f:Nat)(p:Int):Dc:=match gV c f p.toNat with
 |some (m,u)=>aHM c f p ((m+1:Nat):Int)
 |none=>bif (gF c f p 0 ((c.zo.length:Int)-1) true).2.2==0 then aHM (gF c f p 0 ((c.zo.length:Int)-1) true).1 f p (gF c f p 0 ((c.zo.length:Int)-1) true).2.1 else c
def aAF(c:Dc)(f:Nat)(ps:List Int):Nat→Dc
 |0=>c
 |k+1=>aMC (aAF c f ps k) f (ps.getD k 0)
theorem aOB {d:Dc} (h:Ok d)(f:Nat)(p n:Int):Ok (aHM d f p n)∧Sh d (aHM d f p n):=by
 unfold aHM
 split
 ·exact⟨h,Sh.refl d⟩
 ·cases(!(jE false 3 (_ ||| _)==0)&&_==0) with
  |false=>exact⟨h,Sh.refl d⟩
  |true=>exact⟨aME (aAE h _ _) _ _ _,(Sh.rb d _ _).trans (Sh.re _ _ _ _)⟩
theorem aXO {c:Dc} (h:Ok c)(f:Nat)(p:Int):Ok (aMC c f p)∧Sh c (aMC c f p):=by
 unfold aMC
 split
 ·exact aOB h _ _ _
 ·cases((gF c f p 0 ((c.zo.length:Int)-1) true).2.2==0) with
  |false=>exact⟨h,Sh.refl c⟩
  |true=>
   obtain⟨h1,h2⟩:=aOB (uJ h f p 0 ((c.zo.length:Int)-1) true) f p (gF c f p 0 ((c.zo.length:Int)-1) true).2.1
   exact⟨h1,(Sh.gF c _ _ _ _ _).trans h2⟩
theorem uW {c:Dc} (h:Ok c)(f:Nat)(ps:List Int):∀k,Ok (aAF c f ps k)∧Sh c (aAF c f ps k)
 |0=>⟨h,Sh.refl c⟩
 |k+1=>by
  obtain⟨h1,h2⟩:=uW h f ps k
  obtain⟨h3,h4⟩:=aXO h1 f (ps.getD k 0)
  exact⟨h3,h2.trans h4⟩
theorem aSL {c:Dc} (h:Ok c) {f p t pf:Int} {ur:Bool} (e:(gF c f p t pf ur).2.2=0):∃(m:Nat) (u:Us),(gF c f p t pf ur).2.1=((m+1:Nat):Int)∧m< (gF c f p t pf ur).1.fr.length∧(gF c f p t pf ur).1.fr.getD m none=some u:=by
 unfold gF at e⊢
 cases hi:inI c f p t pf with
 |false=>rw [hi] at e;cases e
 |true=>
  rw [hi,cond_true] at e
  rw [cond_true]
  unfold eC at e⊢
  cases h1:decide (0< ((c.fl.getD f.toNat aR).E p.toNat).1) with
  |true=>rw [h1] at e;cases e
  |false=>
   rw [h1,cond_false] at e
   rw [cond_false]
   cases h2:((cA c.gr t.toNat).2==0) with
   |false=>rw [h2,cond_false] at e;rw [e] at h2;cases h2
   |true=>
    rw [h2,cond_true] at e
    rw [cond_true]
    cases h3:((bX c.zo c.zo pf ur).2.2==0) with
    |false=>rw [h3,cond_false] at e;rw [e] at h3;cases h3
    |true=>
     rw [cond_true]
     obtain⟨m,m1,m2,m3⟩:=take_at h (eq_of_beq h3)
     dsimp only
     rw [m2,show(((m+1:Nat):Int)-1).toNat=m by omega]
     exact⟨m,oY c f.toNat p.toNat t.toNat,rfl,by show m< (c.fr.set m _).length;rw [zA];exact m1,aL _ _ _ _ m1⟩
end Go.Proofs.YtmhapcbjjpadnaaGreat
