/- Caches. -/
import Derived.Test.YtmhapcbjjpadnaaGreatGIb
import Derived.Test.YtmhapcbjjpadnaaGreatGHb
import Derived.Test.YtmhapcbjjpadnaaGreatXRKb
import Derived.Test.YtmhapcbjjpadnaaGreatG8b
import Derived.Test.YtmhapcbjjpadnaaGreatGGb
import Derived.Test.YtmhapcbjjpadnaaGreatK8b
import Derived.Test.YtmhapcbjjpadnaaGreatXRNb
set_option linter.all false
set_option maxHeartbeats 8000000
set_option maxRecDepth 40000
open Int renaming toNat_natCast→zH
open List renaming length_set→zA,length_append→zC,getD_eq_getElem?_getD→zF,take_of_length_le→zI,getElem?_eq_none→zJ,map_set→zL
open Nat renaming pow_lt_pow_right→zD,zero_le→zE,or_lt_two_pow→zG,le_refl→zK
namespace Go.Proofs.YtmhapcbjjpadnaaGreat
open Go Go.Sk Go.RowKit
theorem bE4(c:Dc)(n:Nat)(u:Us)(hc:SmD c)(h:jQ (c.setU n u) n u):aM Tryz.prog 155 [] [.agg c.c,.int .i64 ((n+1:Nat):Int),.agg u.c] (.agg (c.put n u).o) (c.put n u).ob:=by
 have hn:n<c.fr.length:=by have :=h.at_;simpa [Dc.setU] using this
 have hs':SmD (c.setU n u):=⟨hc.fl,by show(c.fr.set n (some u)).length<=64;rw [zA];exact hc.fr,hc.gr,hc.ls,hc.ck⟩
 have k252:=bBO (c.setU n u) n u hs' h
 have k85:=aL1 c hc
 unfold Dc.put
 obtain⟨fl,fr,zo,gr,ls,ck,pt⟩:=c
 have hfr:=hc.fr
 dsimp only at hn hfr
 have hset:(aV fr).set n (aU 9 ((aV fr).getD n []) 0 u.c)=aV (fr.set n (some u)):=by
  rw [cH fr n hn]
  have :aU 9 (frC (fr.getD n none)) 0 u.c=u.c:=by cases fr.getD n none <;> rfl
  rw [this];unfold aV;rw [zL];rfl
 generalize hq:(Dc.setU ⟨fl,fr,zo,gr,ls,ck,pt⟩ n u).mark u=q at k252⊢
 obtain⟨fl2,fr2,zo2,gr2,ls2,ck2,pt2⟩:=q
 unfold Dc.o Dc.ob Dc.setU at k252
 unfold Dc.o Dc.ob
 dsimp only at k252⊢
 rw [zA,<-hset] at k252
 refine aF (ob0:= []) [] Tryz.func155 rfl rfl rfl rfl ?_
 refine Wk ?_
 refine .inr ⟨λ_=>⟨[],_,_,_,k85,trivial,rfl,rfl,rfl,?_⟩,(by intro h;cases h)⟩
 refine Wk ?_
 rw [aR (n:=((n+1:Nat):Int)-1) (by omega) (by omega),show((n+1:Nat):Int)-1=(n:Int) by omega,show decide (0<=(n:Int)/\(n:Int)< (fr.length:Int))=true from decide_eq_true ⟨by omega,by omega⟩]
 refine Wk ?_
 rw [show 0+(n:Int).toNat=n by omega,show decide (n< (aV fr).length)=true from decide_eq_true (by rw [bU];exact hn)]
 refine Wk ?_
 refine .inr ⟨λ_=>⟨[3,4,5,6,7],_,_,_,k252,⟨rfl,rfl,rfl,rfl,rfl,trivial⟩,rfl,rfl,rfl,?_⟩,(by intro h;cases h)⟩
 refine Wk ?_
 try subst hk
 exact⟨[some 3,some 4,some 5,some 6,some 7],Cl,rfl,Cl,rfl,Cl⟩
theorem Ok.p155q {c:Dc} (h:Ok c) {n:Nat} {u u':Us} (hn:n<c.fr.length)(hu:c.fr.getD n none=some u)(hk:iF u'=iF u)(hp:dI u'.p)(hr:u'.rd<4)(hw:u'.wr<4):aM Tryz.prog 155 [] [.agg c.c,.int .i64 ((n+1:Nat):Int),.agg u'.c] (.agg (c.put n u').o) (c.put n u').ob:=by
 have k:=h.use n u hn hu
 have f:=h.file _ k.file
 simp only [iF,Prod.mk.injEq] at hk
 obtain⟨k1,k2,k3⟩:=hk
 refine bE4 c n u' h.sm ⟨by show n< (c.fr.set n (some u')).length;rw [zA];exact hn,aJ _ _ _ _ hn,?_,?_,?_,?_,?_,hp,?_,hr,hw⟩
 ·rw [k1];exact k.file
 ·rw [k2];have :=k.page;omega
 ·show bH (c.fl.getD u'.file aP).E;rw [k1];exact f.E
 ·show rK (c.fl.getD u'.file aP).E;rw [k1];exact f.sup
 ·show 0< ((c.fl.getD u'.file aP).E u'.page).1;rw [k1,k2,k.val];omega
 ·rw [k3];show u.ten<c.ls.length;rw [h.nl];exact k.ten
def lA(s:Nat):Nat×Nat:=bif s==1 then(0,1) else bif s==2 then(1,1) else(0,2)
theorem bBU(s:Nat):aM Tryz.prog 277 [] [.int .i64 (s:Int)] (.tup [.int .i64 ((lA s).1:Int),.int .i64 ((lA s).2:Int)]) []:=by
 unfold lA
 by_cases e1:s=1
 ·subst e1
  refine aK (ob0:= []) [] Tryz.func277 rfl rfl rfl rfl ?_
  exact Wz
 ·rw [beq_eq_false_iff_ne.2 e1,cond_false]
  by_cases e2:s=2
  ·subst e2
   refine aK (ob0:= []) [] Tryz.func277 rfl rfl rfl rfl ?_
   exact Wz
  ·rw [beq_eq_false_iff_ne.2 e2,cond_false]
   refine aK (ob0:= []) [] Tryz.func277 rfl rfl rfl rfl ?_
   exact Wz
theorem bET(s:Int):aM Tryz.prog 356 [] [.int .i64 s] (.bool (decide (0<=s/\s<7))) []:=by
 have k:=bBC
 by_cases e1:0<=s
 ·by_cases e2:s<7
  ·rw [decide_eq_true (show 0<=s/\s<7 from⟨e1,e2⟩)]
   refine aK (ob0:= []) [] Tryz.func356 rfl rfl rfl rfl ?_
   exact Wz
  ·rw [decide_eq_false (show ¬(0<=s/\s<7) by omega)]
   refine aK (ob0:= []) [] Tryz.func356 rfl rfl rfl rfl ?_
   exact Wz
 ·rw [decide_eq_false (show ¬(0<=s/\s<7) by omega)]
  refine aK (ob0:= []) [] Tryz.func356 rfl rfl rfl rfl ?_
  exact Wz
def psF(s:Int)(p:Nat):Int:=bif decide (0<=s/\s<7) then s*18+2+p*2 else -1
theorem bEZ(s:Int)(p:Nat)(hp:p<8): -1<=psF s p/\psF s p<=1000:=by
 unfold psF
 by_cases e:0<=s/\s<7
 ·rw [decide_eq_true e,cond_true];omega
 ·rw [decide_eq_false e,cond_false];omega
theorem bER(s:Int)(p:Nat)(hp:p<8):aM Tryz.prog 332 [] [.int .i64 s,.int .i64 (p:Int)] (.int .i64 (psF s p)) []:=by
 have k:=bET s
 unfold psF
 by_cases e:0<=s/\s<7
 ·rw [decide_eq_true e] at k
  rw [decide_eq_true e,cond_true]
  obtain⟨s,rfl⟩:∃t:Nat,s=(t:Int):=⟨s.toNat,by omega⟩
  have :(s:Int)*18+2+p*2=((s*18+2+p*2:Nat):Int):=by omega
  rw [this]
  exact bIY s p (by omega) hp
 ·rw [decide_eq_false e] at k
  rw [decide_eq_false e,cond_false]
  refine aK (ob0:= []) [] Tryz.func332 rfl rfl rfl rfl ?_
  exact Wz
def aNT(dev ten sec cnt kind:Int)(d:ByteArray):V:=.agg [.int .i64 0,.int .i64 ten,.int .i64 dev,.int .i64 kind,.int .i64 sec,.int .i64 cnt,.str d,.bool false,.bool false,.int .i64 0]
theorem bIF(c:Dc)(h:Ok c)(m:Nat)(u:Us)(h1:m<c.fr.length)(h2:c.fr.getD m none=some u)(s:Nat):
 aM Tryz.prog 276 [] [.agg c.c,.int .i64 ((m+1:Nat):Int),.int .i64 (s:Int)] (aNT (c.fl.getD u.file aP).dev (u.ten:Int) (psF (c.fl.getD u.file aP).slot u.page+((lA s).1:Int)) ((lA s).2:Int) 0 ⟨#[]⟩) []:=by
 have hu:=h.use m u h1 h2
 have hgu:=jB h1 h2
 have hnr:=h.nr
 have hf:=hu.file
 have hgf:=iS hf
 obtain⟨k0,k1,k2,k3,hfc,-⟩:=Df.cells (h.file _ hf).E
 rw [hfc] at hgf
 have hp8:=hu.page
 have k277:=bBU s
 have k332:=bER (c.fl.getD u.file aP).slot u.page hp8
 have hps:=bEZ (c.fl.getD u.file aP).slot u.page hp8
 have hs1:(lA s).1<=1:=by unfold lA;cases(s==1)<;> cases(s==2)<;> decide
 generalize psF (c.fl.getD u.file aP).slot u.page=ps at *
 generalize lA s=sp at *
 unfold aNT
 refine aK (ob0:= []) [] Tryz.func276 rfl rfl rfl rfl ?_
 exact Wz
def aSZ(u:Us)(s:Nat):Us:=⟨u.file,u.page,aMM u.p s,u.ten,u.holds,u.rd,s⟩
def lS(c:Dc)(u:Us):Nat:=bif lZ (c.fl.getD u.file aP).blocks u.page then 3 else u.p.d
def aXK(c:Dc)(m:Nat)(u:Us):Dc:=(c.put m (aSZ u (lS c u))).pts (c.pt.map (aCP ((m+1:Nat):Int)))
def bAP:V:=aNT 0 0 0 0 0 ⟨#[]⟩
theorem aHC {c:Dc} {u:Us} (h:dI u.p):lS c u<4:=by
 unfold lS
 have :=h.d
 cases lZ (c.fl.getD u.file aP).blocks u.page with
 |true=>rw [cond_true];omega
 |false=>rw [cond_false];exact this
theorem aZ8 {l:List Pt} (h:kQ l=true)(f:Int):kQ (l.map (aCP f))=true:=by
 obtain⟨c1,c2⟩:=(lT l).1 h
 have e1:∀x,dS (aCP f x)=dS x:=λx=>by unfold aCP;cases(x.frame==f)<;> rfl
 have e2:∀x,eC (aCP f x)=eC x:=λx=>by unfold aCP;cases(x.frame==f)<;> rfl
 refine(lT _).2 ⟨λx hx=>?_,List.pairwise_map.2 (c2.imp λh=>by rw [e1,e1];exact h)⟩
 obtain⟨y,hy,rfl⟩:=List.mem_map.1 hx
 rw [e2];exact c1 y hy
theorem aXL {c:Dc} (h:Ok c) {m:Nat} {u:Us} (h1:m<c.fr.length)(h2:c.fr.getD m none=some u):Ok (aXK c m u):=by
 have hu:=h.use m u h1 h2
 exact(h.put h1 h2 (u':=aSZ u (lS c u)) rfl (aFR hu.pg (aHC hu.pg)) hu.holds hu.rd (aHC hu.pg)).pts (aZ8 h.pt _)
theorem bEA(c:Dc)(n:Int)(hc:SmD c)(hu:gC c n=false):aM Tryz.prog 178 [] [.agg c.c,.int .i64 n] (.tup [.agg c.c,bAP,.int .i64 2]) []:=by
 have k70:=aB4 c n hc
 rw [hu] at k70
 refine aK (ob0:= []) [] Tryz.func178 rfl rfl rfl rfl ?_
 exact Wz
theorem aUP(c:Dc)(h:Ok c)(m:Nat)(u:Us)(h1:m<c.fr.length)(h2:c.fr.getD m none=some u)(hb:u.wr≠0\/u.p.d=0):
 aM Tryz.prog 178 [] [.agg c.c,.int .i64 ((m+1:Nat):Int)] (.tup [.agg c.c,bAP,.int .i64 (bif u.wr==0 then 4 else 7)]) []:=by
 have k70:=h.use70 h1 h2
 have hgu:=jB h1 h2
 have hnr:=h.nr
 by_cases b:u.wr=0
 ·rw [beq_iff_eq.2 b,cond_true]
  have hd:u.p.d=0:=hb.resolve_left (λe=>e b)
  refine aK (ob0:= []) [] Tryz.func178 rfl rfl rfl rfl ?_
  exact Wz
 ·rw [beq_eq_false_iff_ne.2 b,cond_false]
  refine aK (ob0:= []) [] Tryz.func178 rfl rfl rfl rfl ?_
  exact Wz
theorem bHV(c:Dc)(h:Ok c)(m:Nat)(u:Us)(h1:m<c.fr.length)(h2:c.fr.getD m none=some u)(hw:u.wr=0)(hd:u.p.d≠0):
 ∃x1 x2 x3 x4 x5 x6,aM Tryz.prog 178 [] [.agg c.c,.int .i64 ((m+1:Nat):Int)] (.tup [.agg (aXK c m u).c,aNT x1 x2 x3 x4 x5 x6,.int .i64 0]) []:=by
 have k70:=h.use70 h1 h2
 have hu:=h.use m u h1 h2
 have hgu:=jB h1 h2
 have hnr:=h.nr
 have hf:=hu.file
 have hgf:=iS hf
 have kf:=h.file _ hf
 obtain⟨k0,k1,k2,k3,hfc,-⟩:=Df.cells kf.E
 rw [hfc] at hgf
 have hp8:=hu.page
 have hsz:=hu.pg.size
 have hd4:=hu.pg.d
 have hs4:=aHC (c:=c) hu.pg
 have k276:=bIF c h m u h1 h2 (lS c u)
 have k277:=bBU (lS c u)
 have k278:=bIG u.p hu.pg (lS c u) hs4
 have k155:=h.p155 (u':=aSZ u (lS c u)) h1 h2 rfl (aFR hu.pg hs4) hu.rd hs4
 have k279:=bIH c.pt ((m+1:Nat):Int) h.pt h.ptl
 have hsp:(lA (lS c u)).1+(lA (lS c u)).2<=2:=by unfold lA;cases(lS c u==1)<;> cases(lS c u==2)<;> decide
 have hbl:=kf.blocks
 refine⟨(c.fl.getD u.file aP).dev,(u.ten:Int),psF (c.fl.getD u.file aP).slot u.page+((lA (lS c u)).1:Int),((lA (lS c u)).2:Int),2,u.p.b.extract ((lA (lS c u)).1*8) (((lA (lS c u)).1+(lA (lS c u)).2)*8),?_⟩
 generalize psF (c.fl.getD u.file aP).slot u.page=ps at *
 generalize lA (lS c u)=sp at *
 have hho:lZ (c.fl.getD u.file aP).blocks u.page=((((c.fl.getD u.file aP).blocks &&& 2^u.page:Nat):Int)==0):=rfl
 have h2p:2^u.page<2^8:=zD (by omega) hp8
 unfold aXK aSZ at *
 unfold aNT at *
 cases hb:lZ (c.fl.getD u.file aP).blocks u.page with
 |true=>
  have hs:lS c u=3:=by unfold lS;rw [hb];rfl
  simp only [hs] at k276 k277 k278 k155 hs4 hsp⊢
  rw [hb] at hho
  generalize c.put m _=e at *
  refine aK (ob0:= []) [] Tryz.func178 rfl rfl rfl rfl ?_
  exact Wz
 |false=>
  have hs:lS c u=u.p.d:=by unfold lS;rw [hb];rfl
  simp only [hs] at k276 k277 k278 k155 hs4 hsp⊢
  rw [hb] at hho
  generalize c.put m _=e at *
  refine aK (ob0:= []) [] Tryz.func178 rfl rfl rfl rfl ?_
  exact Wz
end Go.Proofs.YtmhapcbjjpadnaaGreat
namespace Go.Proofs.YtmhapcbjjpadnaaGreat
open Go Go.Sk Go.RowKit
def fer(f:Df)(a b:Int):Df:=⟨f.dev,f.slot,f.E,f.size,f.blocks,a,b⟩
def onB(b p:Nat):Nat:=b ||| 2^p
def Dc.blo(c:Dc)(f p:Nat):Dc:=⟨c.fl.set f (fbl (c.fl.getD f aP) (onB (c.fl.getD f aP).blocks p)),c.fr,c.zo,c.gr,c.ls,c.ck,c.pt⟩
def Dc.ers(c:Dc)(f:Nat)(e:Int):Dc:=⟨c.fl.set f (fer (c.fl.getD f aP) (aB9 (c.fl.getD f aP).ec (c.fl.getD f aP).ee e).1 (aB9 (c.fl.getD f aP).ec (c.fl.getD f aP).ee e).2),c.fr,c.zo,c.gr,c.ls,c.ck,c.pt⟩
theorem Ok.fl1 {c:Dc} (h:Ok c) {f:Nat} (hf:f<c.fl.length) {x:Df} (hx:OkF x)(hE:x.E=(c.fl.getD f aP).E):Ok ⟨c.fl.set f x,c.fr,c.zo,c.gr,c.ls,c.ck,c.pt⟩:=by
 refine h.same (zA ..) (λg q=>?_) (λg hg=>?_) rfl (λ_=>rfl) (λm v hm hv=>?_) rfl rfl rfl h.ls (λ_ _ hx=>hx) rfl h.pt
 ·show(((c.fl.set f x).getD g aP).E q).1=_
  by_cases e:g=f
  ·subst e;rw [aJ _ _ _ _ hf,hE]
  ·rw [getD_set_ne _ _ _ e]
 ·show OkF ((c.fl.set f x).getD g aP)
  by_cases e:g=f
  ·subst e;rw [aJ _ _ _ _ hf];exact hx
  ·rw [getD_set_ne _ _ _ e];exact h.file g hg
 ·have :=h.use m v hm hv
  exact⟨this.pg,this.holds,this.rd,this.wr⟩
theorem Ok.blo {c:Dc} (h:Ok c) {f p:Nat} (hf:f<c.fl.length)(hp:p<8):Ok (c.blo f p):=by
 have k:=h.file f hf
 exact h.fl1 hf ⟨k.E,k.sup,k.lo,k.size,zG (n:=8) k.blocks (zD (by omega) hp),k.ec,k.ee⟩ rfl
theorem aZO {a b e:Int} (h:0<=a/\a<=1000000)(h2:a=0↔b=0)(he:e≠0):(0<=(aB9 a b e).1/\(aB9 a b e).1<=1000000)/\((aB9 a b e).1=0↔(aB9 a b e).2=0):=by
 unfold aB9
 by_cases x:a=1000000
 ·rw [beq_iff_eq.2 x,cond_true];exact⟨h,h2⟩
 ·rw [beq_eq_false_iff_ne.2 x,cond_false]
  dsimp only
  exact⟨by omega,by omega⟩
theorem Ok.ers {c:Dc} (h:Ok c) {f:Nat} (hf:f<c.fl.length) {e:Int} (he:e≠0):Ok (c.ers f e):=by
 have k:=h.file f hf
 obtain⟨r1,r2⟩:=aZO k.ec k.ee he
 exact h.fl1 hf ⟨k.E,k.sup,k.lo,k.size,k.blocks,r1,r2⟩ rfl
theorem bK4 {L:List Df} {f:Nat} {a b:Int} (h:f<L.length)(hE:bH (L.getD f aP).E):bA (L.set f (fer (L.getD f aP) a b))=(bA L).set f (aU 15 (L.getD f aP).c 8 [.int .i64 a,.int .i64 b]):=by
 rw [bA,bA,zL]
 obtain⟨k0,k1,k2,k3,e,e3⟩:=Df.cells hE
 congr 1
 unfold Df.c fer
 dsimp only
 rw [e3]
 rfl
def aAL(u:Us)(e:Int):Us:=⟨u.file,u.page,bif e==0 then u.p else gR u.p u.wr,u.ten,u.holds,u.rd,0⟩
def aMY(c:Dc)(m:Nat)(u:Us)(e:Int):Dc:=bif e==0 then(c.put m (aAL u e)).blo u.file u.page else(c.put m (aAL u e)).ers u.file e
theorem aHI {u:Us} (h:dI u.p)(hw:u.wr<4)(e:Int):dI (aAL u e).p:=by
 unfold aAL
 cases(e==0) with
 |true=>exact h
 |false=>exact mO h hw
theorem aXY {c:Dc} (h:Ok c) {m:Nat} {u:Us} (h1:m<c.fr.length)(h2:c.fr.getD m none=some u)(e:Int):Ok (aMY c m u e):=by
 have hu:=h.use m u h1 h2
 have hp:=h.put h1 h2 (u':=aAL u e) rfl (aHI hu.pg hu.wr e) hu.holds hu.rd (by show 0<4;omega)
 have hf:u.file< (c.put m (aAL u e)).fl.length:=by rw [nP];exact hu.file
 unfold aMY
 by_cases x:e=0
 ·rw [beq_iff_eq.2 x];exact hp.blo hf hu.page
 ·rw [beq_eq_false_iff_ne.2 x];exact hp.ers hf x
theorem bE8(c:Dc)(n e:Int)(hc:SmD c)(hu:gC c n=false):aM Tryz.prog 177 [] [.agg c.c,.int .i64 n,.int .i64 e] (.tup [.agg c.c,.int .i64 2]) []:=by
 have k70:=aB4 c n hc
 rw [hu] at k70
 refine aK (ob0:= []) [] Tryz.func177 rfl rfl rfl rfl ?_
 exact Wz
theorem bE7(c:Dc)(h:Ok c)(m:Nat)(u:Us)(h1:m<c.fr.length)(h2:c.fr.getD m none=some u)(hw:u.wr=0)(e:Int):
 aM Tryz.prog 177 [] [.agg c.c,.int .i64 ((m+1:Nat):Int),.int .i64 e] (.tup [.agg c.c,.int .i64 4]) []:=by
 have k70:=h.use70 h1 h2
 have hgu:=jB h1 h2
 have hnr:=h.nr
 refine aK (ob0:= []) [] Tryz.func177 rfl rfl rfl rfl ?_
 exact Wz
theorem bHU(c:Dc)(h:Ok c)(m:Nat)(u:Us)(h1:m<c.fr.length)(h2:c.fr.getD m none=some u)(hw:u.wr≠0)(e:Int):
 aM Tryz.prog 177 [] [.agg c.c,.int .i64 ((m+1:Nat):Int),.int .i64 e] (.tup [.agg (aMY c m u e).c,.int .i64 0]) []:=by
 have k70:=h.use70 h1 h2
 have hu:=h.use m u h1 h2
 have hgu:=jB h1 h2
 have hnr:=h.nr
 have hf:=hu.file
 have hp8:=hu.page
 have k176:=aUO u.p hu.pg u.wr hu.wr
 have k155:=h.p155q (u':=aAL u e) h1 h2 rfl (aHI hu.pg hu.wr e) hu.rd (by show 0<4;omega)
 have o:=h.put h1 h2 (u':=aAL u e) rfl (aHI hu.pg hu.wr e) hu.holds hu.rd (by show 0<4;omega)
 have hfe:u.file< (c.put m (aAL u e)).fl.length:=by rw [nP];exact hf
 have h2p:2^u.page<2^8:=zD (by omega) hp8
 unfold aMY
 generalize hd:c.put m (aAL u e)=d at *
 have kf:=o.file _ hfe
 have hgf:=iS hfe
 have hbl:=kf.blocks
 have hpb:=aL4 (b:=onB (d.fl.getD u.file aP).blocks u.page) hfe kf.E
 have hpe:=bK4 (a:=(aB9 (d.fl.getD u.file aP).ec (d.fl.getD u.file aP).ee e).1) (b:=(aB9 (d.fl.getD u.file aP).ec (d.fl.getD u.file aP).ee e).2) hfe kf.E
 have hor:=zG (n:=8) hbl h2p
 have k275:=λhe=>bIE (d.fl.getD u.file aP).ec (d.fl.getD u.file aP).ee e kf.ec.1 kf.ec.2 kf.ee he
 obtain⟨k0,k1,k2,k3,hfc,-⟩:=Df.cells kf.E
 rw [hfc] at hgf hpb hpe
 have hsm:=o.sm
 have g1:=hsm.fl
 have g2:=hsm.fr
 have g3:=hsm.gr
 have g4:=hsm.ls
 have g5:=hsm.ck
 unfold aAL at k155
 by_cases x:e=0
 ·rw [beq_iff_eq.2 x,cond_true]
  rw [beq_iff_eq.2 x,cond_true] at k155
  subst x
  unfold Dc.blo
  simp only [Dc.c,hpb]
  unfold onB
  refine aK (ob0:= []) [] Tryz.func177 rfl rfl rfl rfl ?_
  exact Wz
 ·rw [beq_eq_false_iff_ne.2 x,cond_false]
  rw [beq_eq_false_iff_ne.2 x,cond_false] at k155
  have k275:=k275 x
  unfold Dc.ers
  simp only [Dc.c,hpe]
  generalize aB9 (d.fl.getD u.file aP).ec (d.fl.getD u.file aP).ee e=r at *
  refine aK (ob0:= []) [] Tryz.func177 rfl rfl rfl rfl ?_
  exact Wz
end Go.Proofs.YtmhapcbjjpadnaaGreat
namespace Go.Proofs.YtmhapcbjjpadnaaGreat
open Go Go.Sk Go.RowKit
theorem draw(L:List Int) {J:Nat} (hL:(L.length:Int)<2^62)(hJ:J<=L.length)(n:Int)(h0:0<n)(h1:n<1000000000):
 ∃v J':Nat,(v:Int)<n/\J'<=L.length/\aM Tryz.prog 15 [lC L J] [.ptr 0 0 0,.int .i64 n] (.int .i64 (v:Int)) [lC L J']:=by
 have a:=aNF L J n h0 (by omega)
 refine⟨(nxV L J n).toNat,nxI L J,by omega,aNE L J hJ,?_⟩
 rw [show(((nxV L J n).toNat:Nat):Int)=nxV L J n by omega]
 exact aUK L J n hL hJ h0 (by omega)
def fB(l:List (Option Us)):Nat->List Int
 |0=> []
 |k+1=>bif (l.getD k none).isSome then fB l k++ [((k+1:Nat):Int)] else fB l k
theorem aBJ {l:List (Option Us)} :∀ {k:Nat} {x:Int},x∈fB l k->∃(m:Nat) (u:Us),x=((m+1:Nat):Int)/\m<k/\l.getD m none=some u
 |0,x,h=>by simp [fB] at h
 |k+1,x,h=>by
  rw [fB] at h
  cases e:l.getD k none with
  |none=>
   rw [e] at h
   obtain⟨m,u,h1,h2,h3⟩:=aBJ (k:=k) h
   exact⟨m,u,h1,by omega,h3⟩
  |some u=>
   rw [e] at h
   rcases List.mem_append.1 h with h |h
   ·obtain⟨m,u,h1,h2,h3⟩:=aBJ (k:=k) h
    exact⟨m,u,h1,by omega,h3⟩
   ·exact⟨k,u,List.mem_singleton.1 h,by omega,e⟩
theorem tP(l:List (Option Us)):∀k,(fB l k).length<=k
 |0=>zK 0
 |k+1=>by
  rw [fB]
  have :=tP l k
  cases(l.getD k none).isSome with
  |true=>rw [cond_true,zC,List.length_singleton];omega
  |false=>rw [cond_false];omega
theorem aBB(a:List Int)(x:Int):aE (a++ [x])=aE a++ [[.int .i64 x]]:=by simp [aE]
theorem aGM(c:Dc)(h:Ok c)(L:List Int) {J:Nat} (hL:(L.length:Int)<2^62)(hJ:J<=L.length):
 ∃(r:Int) (J':Nat),J'<=L.length/\(r=0\/∃(m:Nat) (u:Us),r=((m+1:Nat):Int)/\m<c.fr.length/\c.fr.getD m none=some u)/\
  aM Tryz.prog 281 [lC L J] [.ptr 0 0 0,.agg c.c] (.int .i64 r) [lC L J']:=by
 have hnr:=h.nr
 have hlen:=tP c.fr c.fr.length
 by_cases e:(fB c.fr c.fr.length).length=0
 ·refine⟨0,J,hJ,.inl rfl,?_⟩
  refine aK (ob0:= [lC L J]) [] Tryz.func281 rfl rfl rfl rfl ?_
  refine Wx ?_
  refine Lp (λi:Nat=>i<=c.fr.length) (λi=> [(6,.int .i64 ((i+1:Nat):Int)),(5,.sl 2 0 (fB c.fr i).length)]) (λi=> [(2,.row 1 (aE (fB c.fr i)))]) (λi=>c.fr.length-i) 0 (zE _) ?_ ?_
  ·exact Vr [_,_,none]
  intro i hi
  have hul:=tP c.fr i
  have hst:fB c.fr (i+1)=bif (c.fr.getD i none).isSome then fB c.fr i++ [((i+1:Nat):Int)] else fB c.fr i:=rfl
  refine Wx ?_
  refine fP (λb=>?_) (λb=>?_)
  ·have b:i<c.fr.length:=by omega
   have hg:=cH c.fr i b
   generalize fB c.fr i=U at *
   cases hu:c.fr.getD i none with
   |none=>
    rw [hu] at hg hst
    have hg:(aV c.fr).getD i []=fre.c:=hg
    have hst:fB c.fr (i+1)=U:=hst
    refine Wx ?_
    refine Le (i+1) (hv:=?_)
    simp only [hst]
    exact Vr [_,_,_]
   |some u=>
    rw [hu] at hg hst
    have hg:(aV c.fr).getD i []=u.c:=hg
    have hst:fB c.fr (i+1)=U++ [((i+1:Nat):Int)]:=hst
    refine Wx ?_
    refine Le (i+1) (hv:=?_)
    simp only [hst,aBB]
    exact Vr [_,_,_]
  obtain rfl:i=c.fr.length:=by omega
  exact Wo
 ·obtain⟨v,J',hv,hJ',k15⟩:=draw L hL hJ ((fB c.fr c.fr.length).length:Int) (by omega) (by omega)
  have hv:v< (fB c.fr c.fr.length).length:=by omega
  have hg2:=aZU hv
  have hmem:(fB c.fr c.fr.length).getD v 0∈fB c.fr c.fr.length:=by
   rw [zF,List.getElem?_eq_getElem hv];exact List.getElem_mem hv
  obtain⟨m,u,m1,m2,m3⟩:=aBJ hmem
  refine⟨(fB c.fr c.fr.length).getD v 0,J',hJ',.inr ⟨m,u,m1,m2,m3⟩,?_⟩
  refine aK (ob0:= [lC L J]) [] Tryz.func281 rfl rfl rfl rfl ?_
  refine Wx ?_
  refine Lp (λi:Nat=>i<=c.fr.length) (λi=> [(6,.int .i64 ((i+1:Nat):Int)),(5,.sl 2 0 (fB c.fr i).length)]) (λi=> [(2,.row 1 (aE (fB c.fr i)))]) (λi=>c.fr.length-i) 0 (zE _) ?_ ?_
  ·exact Vr [_,_,none]
  intro i hi
  have hul:=tP c.fr i
  have hst:fB c.fr (i+1)=bif (c.fr.getD i none).isSome then fB c.fr i++ [((i+1:Nat):Int)] else fB c.fr i:=rfl
  refine Wx ?_
  refine fP (λb=>?_) (λb=>?_)
  ·have b:i<c.fr.length:=by omega
   have hg:=cH c.fr i b
   generalize fB c.fr i=U at *
   cases hu:c.fr.getD i none with
   |none=>
    rw [hu] at hg hst
    have hg:(aV c.fr).getD i []=fre.c:=hg
    have hst:fB c.fr (i+1)=U:=hst
    refine Wx ?_
    refine Le (i+1) (hv:=?_)
    simp only [hst]
    exact Vr [_,_,_]
   |some u=>
    rw [hu] at hg hst
    have hg:(aV c.fr).getD i []=u.c:=hg
    have hst:fB c.fr (i+1)=U++ [((i+1:Nat):Int)]:=hst
    refine Wx ?_
    refine Le (i+1) (hv:=?_)
    simp only [hst,aBB]
    exact Vr [_,_,_]
  obtain rfl:i=c.fr.length:=by omega
  exact Wo
def rS(f p:Nat)(i:Nat):List UInt8:=(List.range 16).map λj=>bif decide (j<i) then UInt8.ofNat (65+(f*7+p*3+j)%26) else 0
theorem oT(f p i:Nat):(rS f p i).length=16:=by simp [rS]
theorem aR3(f p i:Nat)(hi:i<16):rS f p (i+1)=(rS f p i).set i (UInt8.ofNat (65+(f*7+p*3+i)%26)):=by
 apply List.ext_getElem?
 intro j
 by_cases hj:j<16
 ·rw [List.getElem?_set]
  by_cases e:i=j
  ·subst e
   rw [if_pos rfl,if_pos (by rw [oT];exact hj)]
   simp [rS,hj]
  ·rw [if_neg e]
   simp only [rS,List.getElem?_map,List.getElem?_range hj,Option.map_some]
   rw [show decide (j<i+1)=decide (j<i) by rw [decide_eq_decide];omega]
 ·rw [zJ (by rw [oT];omega),zJ (by rw [zA,oT];omega)]
def rT(f p:Nat):ByteArray:=⟨(rS f p 16).toArray⟩
end Go.Proofs.YtmhapcbjjpadnaaGreat
namespace Go.Proofs.YtmhapcbjjpadnaaGreat
open Go Go.Sk Go.RowKit
theorem aS4(l:List UInt8)(i:Nat)(b:UInt8):(iI l).set i [.int .u8 (b.toNat:Int)]=iI (l.set i b):=by unfold iI;rw [zL]
theorem aR2(f p:Nat):gK (List.take 16 (List.drop 0 (iI (rS f p 16))))=some (rS f p 16):=by
 rw [List.drop_zero,zI (by rw [lN,oT];omega)];exact jE _
theorem bL1 {n:Nat} (h:n<256):IntKind.u8.wrap (n:Int)=((UInt8.ofNat n).toNat:Int):=by
 rw [IntKind.wrap_u8,UInt8.toNat_ofNat'];omega
theorem bB0(f p:Nat)(hf:f<=100)(hp:p<=100):aM Tryz.prog 160 [] [.int .i64 (f:Int),.int .i64 (p:Int)] (.str (rT f p)) []:=by
 have hd:=aR2 f p
 unfold rT
 refine aK (ob0:= []) [] Tryz.func160 rfl rfl rfl rfl ?_
 refine Wx ?_
 refine Lp (λi:Nat=>i<=16) (λi=> [(10,.int .i64 (i:Int))]) (λi=> [(0,.row 1 (iI (rS f p i)))]) (λi=>16-i) 0 (zE _) ?_ ?_
 ·exact Vr [_]
 intro i hi
 have hl:=oT f p i
 have hrl:=lN (rS f p i)
 refine Wx ?_
 refine fP (λb=>?_) (λb=>?_)
 ·have hs:=aR3 f p i (by omega)
  have hw:=bL1 (n:=65+(f*7+p*3+i)%26) (by omega)
  refine Wx ?_
  refine Le (i+1) (hv:=?_)
  simp only [hs,<-aS4,<-hw]
  exact Vr [_]
 obtain rfl:i=16:=by omega
 exact Wz
def abc(v:Int):UInt8:=UInt8.ofNat (97+v.toNat)
def oB(L:List Int)(J:Nat):Nat->Nat×List UInt8
 |0=>(J,[])
 |k+1=>(nxI L (oB L J k).1,(oB L J k).2++ [abc (nxV L (oB L J k).1 8)])
theorem vB(L:List Int) {J:Nat} (hJ:J<=L.length):∀k,(oB L J k).1<=L.length/\(oB L J k).2.length=k
 |0=>⟨hJ,rfl⟩
 |k+1=>by
  obtain⟨h1,h2⟩:=vB L hJ k
  exact⟨aNE L _ h1,by rw [oB,zC,h2];rfl⟩
def aJK(L:List Int)(J n i:Nat):List (List V):=iI (oB L J i).2++List.replicate (n-i) [.int .u8 0]
theorem aJL(L:List Int) {J:Nat} (hJ:J<=L.length) {n i:Nat} (h:i<=n):(aJK L J n i).length=n:=by
 unfold aJK
 rw [zC,lN,(vB L hJ i).2,List.length_replicate];omega
theorem aQU(L:List Int) {J:Nat} (hJ:J<=L.length) {n i:Nat} (h:i<n):aJK L J n (i+1)=(aJK L J n i).set i [.int .u8 ((abc (nxV L (oB L J i).1 8)).toNat:Int)]:=by
 have hl:=(vB L hJ i).2
 unfold aJK
 rw [oB]
 obtain⟨k,hk⟩:∃k,n-i=k+1:=⟨n-i-1,by omega⟩
 rw [hk,show n- (i+1)=k by omega,List.replicate_succ,List.set_append,if_neg (by rw [lN,hl];omega),lN,hl,Nat.sub_self,List.set_cons_zero]
 simp [iI]
theorem aT1(L:List Int) {J:Nat} (hJ:J<=L.length)(n:Nat):gK (List.take n (List.drop 0 (aJK L J n n)))=some (oB L J n).2:=by
 rw [List.drop_zero,zI (by rw [aJL L hJ (zK n)];omega)]
 unfold aJK
 rw [Nat.sub_self,List.replicate_zero,List.append_nil];exact jE _
theorem bJJ(L:List Int) {J:Nat} (hL:(L.length:Int)<2^62)(hJ:J<=L.length)(n:Nat)(hn:n<=1000):
 ∃(s:ByteArray) (J':Nat),s.size=n/\J'<=L.length/\aM Tryz.prog 48 [lC L J] [.ptr 0 0 0,.int .i64 (n:Int)] (.str s) [lC L J']:=by
 have hf:=vB L hJ n
 refine⟨⟨(oB L J n).2.toArray⟩,(oB L J n).1,by show(oB L J n).2.toArray.size=n;rw [List.size_toArray];exact hf.2,hf.1,?_⟩
 have hall:=aT1 L hJ n
 refine aK (ob0:= [lC L J]) [] Tryz.func48 rfl rfl rfl rfl ?_
 refine Wx ?_
 rw [mkT (by omega) (by omega)]
 refine Wx ?_
 refine Lp (λi:Nat=>i<=n) (λi=> [(11,.int .i64 (i:Int))]) (λi=> [(0,lC L (oB L J i).1),(1,.row 1 (aJK L J n i))]) (λi=>n-i) 0 (zE _) ?_ ?_
 ·exact Vr [_,_]
 intro i hi
 have hl:=aJL L hJ hi
 obtain⟨f1,f2⟩:=vB L hJ i
 refine Wx ?_
 refine fP (λb=>?_) (λb=>?_)
 ·have hs:=aQU L hJ (show i<n by omega)
  have k15:=aUK L (oB L J i).1 8 hL f1 (by decide) (by decide)
  have hv:=aNF L (oB L J i).1 8 (by decide) (by decide)
  have hst:(oB L J (i+1)).1=nxI L (oB L J i).1:=rfl
  generalize nxV L (oB L J i).1 8=v at *
  generalize nxI L (oB L J i).1=J1 at *
  generalize(oB L J i).1=J0 at *
  have h8:v=0\/v=1\/v=2\/v=3\/v=4\/v=5\/v=6\/v=7:=by omega
  rcases h8 with rfl |rfl |rfl |rfl |rfl |rfl |rfl |rfl
  all_goals
   refine Wx ?_
   refine Le (i+1) (hv:=?_)
   simp only [hs,hst]
   exact Vr [_,_]
 obtain rfl:i=n:=by omega
 exact Wo
end Go.Proofs.YtmhapcbjjpadnaaGreat
namespace Go.Proofs.YtmhapcbjjpadnaaGreat
open Go Go.Sk Go.RowKit
def fA(c:Dc)(n:Int):Option (Nat×Us):=bif gC c n then(c.fr.getD (n-1).toNat none).map λu=>((n-1).toNat,u) else none
theorem cN(c:Dc)(n:Int):(fA c n=none/\gC c n=false)\/∃(m:Nat) (u:Us),fA c n=some (m,u)/\n=((m+1:Nat):Int)/\m<c.fr.length/\c.fr.getD m none=some u:=by
 unfold fA
 rcases aO3 c n with h | ⟨m,u,rfl,h1,h2⟩
 ·rw [h];exact .inl ⟨rfl,rfl⟩
 ·refine .inr ⟨m,u,?_,rfl,h1,h2⟩
  rw [nX h1 h2,show(((m+1:Nat):Int)-1).toNat=m by omega,h2];rfl
theorem Ok.goodS {c:Dc} (h:Ok c) {n:Nat} {u u':Us} (hn:n<c.fr.length)(hu:c.fr.getD n none=some u)(hk:iF u'=iF u)(hp:dI u'.p)(hr:u'.rd<4)(hw:u'.wr<4):jQ (c.setU n u') n u':=by
 have k:=h.use n u hn hu
 have f:=h.file _ k.file
 simp only [iF,Prod.mk.injEq] at hk
 obtain⟨k1,k2,k3⟩:=hk
 refine⟨by show n< (c.fr.set n (some u')).length;rw [zA];exact hn,aJ _ _ _ _ hn,?_,?_,?_,?_,?_,hp,?_,hr,hw⟩
 ·rw [k1];exact k.file
 ·rw [k2];have :=k.page;omega
 ·show bH (c.fl.getD u'.file aP).E;rw [k1];exact f.E
 ·show rK (c.fl.getD u'.file aP).E;rw [k1];exact f.sup
 ·show 0< ((c.fl.getD u'.file aP).E u'.page).1;rw [k1,k2,k.val];omega
 ·rw [k3];show u.ten<c.ls.length;rw [h.nl];exact k.ten
def evG(c:Dc)(n:Int):Dc×Int:=match fA c n with
 |none=>(c,2)
 |some (m,u)=>bif mA u&&decide (u.p.d=0) then(c.evi m u,0) else(c,7)
theorem bJC(c:Dc)(h:Ok c)(n:Int):aM Tryz.prog 43 [] [.agg c.c,.int .i64 n] (.tup [.agg (evG c n).1.c,.int .i64 (evG c n).2]) []:=by
 unfold evG
 rcases cN c n with ⟨e,hu⟩| ⟨m,u,e,rfl,h1,h2⟩
 ·rw [e];exact bJD c n h.sm hu
 ·rw [e]
  dsimp only
  have hu:=h.use m u h1 h2
  cases hi:(mA u&&decide (u.p.d=0)) with
  |false=>exact bJB c m u h.sm h1 h2 hi
  |true=>
   have hi:=Bool.and_eq_true_iff.1 hi
   exact bMC c m u h.sm (h.good h1 h2) hu.ten h.gr h.smZ (h.smL _) h.pt h.ptl (by rw [h.nk];exact hu.ten) (h.ck _) hi.1 (of_decide_eq_true hi.2)
theorem bD9 {c:Dc} (h:Ok c)(n:Int):Ok (evG c n).1:=by
 unfold evG
 rcases cN c n with ⟨e,hu⟩| ⟨m,u,e,rfl,h1,h2⟩
 ·rw [e];exact h
 ·rw [e]
  dsimp only
  cases(mA u&&decide (u.p.d=0)) with
  |false=>exact h
  |true=>exact h.evi h1 h2
def aCM(c:Dc)(n k:Int):Dc×Int:=match fA c n with
 |none=>(c,2)
 |some (m,u)=>bif decide ((-255<=k/\k<=255)/\0<=(u.holds:Int)+k/\(u.holds:Int)+k<=255) then(c.put m (aBT u ((u.holds:Int)+k).toNat),0) else(c,1)
theorem bJF(c:Dc)(h:Ok c)(n k:Int):aM Tryz.prog 45 [] [.agg c.c,.int .i64 n,.int .i64 k] (.tup [.agg (aCM c n k).1.c,.int .i64 (aCM c n k).2]) []:=by
 unfold aCM
 rcases cN c n with ⟨e,hu⟩| ⟨m,u,e,rfl,h1,h2⟩
 ·rw [e];exact bJG c n k h.sm hu
 ·rw [e]
  dsimp only
  have hu:=h.use m u h1 h2
  by_cases x:(-255<=k/\k<=255)/\0<=(u.holds:Int)+k/\(u.holds:Int)+k<=255
  ·rw [decide_eq_true x]
   exact bMD c m u h.sm (h.good h1 h2) hu.holds k x.1 x.2.1 x.2.2 (h.goodS h1 h2 rfl hu.pg hu.rd hu.wr)
  ·rw [decide_eq_false x]
   exact bJE c m u h.sm (h.good h1 h2) hu.holds k x
theorem aYD {c:Dc} (h:Ok c)(n k:Int):Ok (aCM c n k).1:=by
 unfold aCM
 rcases cN c n with ⟨e,hu⟩| ⟨m,u,e,rfl,h1,h2⟩
 ·rw [e];exact h
 ·rw [e]
  dsimp only
  have hu:=h.use m u h1 h2
  by_cases x:(-255<=k/\k<=255)/\0<=(u.holds:Int)+k/\(u.holds:Int)+k<=255
  ·rw [decide_eq_true x]
   exact h.put h1 h2 rfl hu.pg (by show((u.holds:Int)+k).toNat<=255;omega) hu.rd hu.wr
  ·rw [decide_eq_false x];exact h
def rbG(c:Dc)(n k:Int):Dc×Int:=match fA c n with
 |none=>(c,2)
 |some (m,u)=>bif decide ((1<=k/\k<=3)/\k.toNat &&& (u.p.v ||| u.rd)=0) then(c.put m (aC6 u (u.rd ||| k.toNat)),0) else(c,1)
theorem or4 {a b:Nat} (ha:a<4)(hb:b<4):a ||| b<4:=zG (n:=2) ha hb
theorem aVE(c:Dc)(h:Ok c)(n k:Int):aM Tryz.prog 47 [] [.agg c.c,.int .i64 n,.int .i64 k] (.tup [.agg (rbG c n k).1.c,.int .i64 (rbG c n k).2]) []:=by
 unfold rbG
 rcases cN c n with ⟨e,hu⟩| ⟨m,u,e,rfl,h1,h2⟩
 ·rw [e];exact bJI c n k h.sm hu
 ·rw [e]
  dsimp only
  have hu:=h.use m u h1 h2
  by_cases x:(1<=k/\k<=3)/\k.toNat &&& (u.p.v ||| u.rd)=0
  ·rw [decide_eq_true x]
   obtain⟨k,rfl⟩:∃j:Nat,k=(j:Int):=⟨k.toNat,by omega⟩
   rw [zH] at *
   exact bME c m u h.sm (h.good h1 h2) k (by omega) x.2 (h.goodS h1 h2 rfl hu.pg (or4 hu.rd (by omega)) hu.wr)
  ·rw [decide_eq_false x]
   exact bJH c m u h.sm (h.good h1 h2) k x
theorem aEX {c:Dc} (h:Ok c)(n k:Int):Ok (rbG c n k).1:=by
 unfold rbG
 rcases cN c n with ⟨e,hu⟩| ⟨m,u,e,rfl,h1,h2⟩
 ·rw [e];exact h
 ·rw [e]
  dsimp only
  have hu:=h.use m u h1 h2
  by_cases x:(1<=k/\k<=3)/\k.toNat &&& (u.p.v ||| u.rd)=0
  ·rw [decide_eq_true x]
   exact h.put h1 h2 rfl hu.pg hu.holds (or4 hu.rd (by omega)) hu.wr
  ·rw [decide_eq_false x];exact h
def reG(c:Dc)(n:Int)(d:ByteArray)(ok:Bool):Dc×Int:=match fA c n with
 |none=>(c,2)
 |some (m,u)=>aA1 c m u d ok
theorem aVF(c:Dc)(h:Ok c)(n:Int)(d:ByteArray)(ok:Bool):aM Tryz.prog 50 [] [.agg c.c,.int .i64 n,.str d,.bool ok] (.tup [.agg (reG c n d ok).1.c,.int .i64 (reG c n d ok).2]) []:=by
 unfold reG
 rcases cN c n with ⟨e,hu⟩| ⟨m,u,e,rfl,h1,h2⟩
 ·rw [e];exact bJK c n d ok h.sm hu
 ·rw [e];exact bMF c h m u h1 h2 d ok
theorem aVZ {c:Dc} (h:Ok c)(n:Int)(d:ByteArray)(ok:Bool):Ok (reG c n d ok).1:=by
 unfold reG
 rcases cN c n with ⟨e,hu⟩| ⟨m,u,e,rfl,h1,h2⟩
 ·rw [e];exact h
 ·rw [e];exact aW0 h h1 h2 d ok
def bgG(c:Dc)(n:Int):Dc×Int:=match fA c n with
 |none=>(c,2)
 |some (m,u)=>bif u.wr==0 then(bif u.p.d==0 then(c,4) else(aXK c m u,0)) else(c,7)
theorem bE9(c:Dc)(h:Ok c)(n:Int):∃x1 x2 x3 x4 x5 x6,aM Tryz.prog 178 [] [.agg c.c,.int .i64 n] (.tup [.agg (bgG c n).1.c,aNT x1 x2 x3 x4 x5 x6,.int .i64 (bgG c n).2]) []:=by
 unfold bgG
 rcases cN c n with ⟨e,hu⟩| ⟨m,u,e,rfl,h1,h2⟩
 ·rw [e];exact⟨_,_,_,_,_,_,bEA c n h.sm hu⟩
 ·rw [e]
  dsimp only
  by_cases x:u.wr=0
  ·by_cases y:u.p.d=0
   ·have :=aUP c h m u h1 h2 (.inr y)
    rw [beq_iff_eq.2 x,beq_iff_eq.2 y]
    rw [beq_iff_eq.2 x] at this
    exact⟨_,_,_,_,_,_,this⟩
   ·rw [beq_iff_eq.2 x,beq_eq_false_iff_ne.2 y]
    exact bHV c h m u h1 h2 x y
  ·have :=aUP c h m u h1 h2 (.inl x)
   rw [beq_eq_false_iff_ne.2 x]
   rw [beq_eq_false_iff_ne.2 x] at this
   exact⟨_,_,_,_,_,_,this⟩
theorem bCW {c:Dc} (h:Ok c)(n:Int):Ok (bgG c n).1:=by
 unfold bgG
 rcases cN c n with ⟨e,hu⟩| ⟨m,u,e,rfl,h1,h2⟩
 ·rw [e];exact h
 ·rw [e]
  dsimp only
  cases(u.wr==0) with
  |false=>exact h
  |true=>
   cases(u.p.d==0) with
   |true=>exact h
   |false=>exact aXL h h1 h2
def enG(c:Dc)(n e:Int):Dc×Int:=match fA c n with
 |none=>(c,2)
 |some (m,u)=>bif u.wr==0 then(c,4) else(aMY c m u e,0)
theorem aNH(c:Dc)(h:Ok c)(n e:Int):aM Tryz.prog 177 [] [.agg c.c,.int .i64 n,.int .i64 e] (.tup [.agg (enG c n e).1.c,.int .i64 (enG c n e).2]) []:=by
 unfold enG
 rcases cN c n with ⟨x,hu⟩| ⟨m,u,x,rfl,h1,h2⟩
 ·rw [x];exact bE8 c n e h.sm hu
 ·rw [x]
  dsimp only
  by_cases y:u.wr=0
  ·rw [beq_iff_eq.2 y];exact bE7 c h m u h1 h2 y e
  ·rw [beq_eq_false_iff_ne.2 y];exact bHU c h m u h1 h2 y e
theorem bD4 {c:Dc} (h:Ok c)(n e:Int):Ok (enG c n e).1:=by
 unfold enG
 rcases cN c n with ⟨x,hu⟩| ⟨m,u,x,rfl,h1,h2⟩
 ·rw [x];exact h
 ·rw [x]
  dsimp only
  cases(u.wr==0) with
  |true=>exact h
  |false=>exact aXY h h1 h2 e
def aBL(c:Dc)(f off:Int)(s:ByteArray):Dc×Int:=bif eX c f off s.size then jS c f.toNat off.toNat s else(c,2)
theorem bCA(c:Dc)(h:Ok c)(f off:Int)(s:ByteArray)(hs:s.size<=1000000):aM Tryz.prog 57 [] [.agg c.c,.int .i64 f,.int .i64 off,.str s] (.tup [.agg (aBL c f off s).1.c,.int .i64 (aBL c f off s).2]) []:=by
 unfold aBL
 cases hr:eX c f off s.size with
 |true=>
  obtain⟨f,off,n,rfl,rfl,e,hf,hb⟩:=dU hr
  have :n=s.size:=by omega
  subst this
  exact bMJ c h f off s hf hb
 |false=>
  have k115:=aHR c f
  have k125:=pJ off (s.size:Int)
  unfold eX at hr
  rw [cond_false]
  cases hd:decide (0<=f/\f< (c.fl.length:Int)) with
  |false=>
   rw [hd] at k115
   refine aK (ob0:= []) [] Tryz.func57 rfl rfl rfl rfl ?_
   exact Wz
  |true=>
   rw [hd,cond_true] at hr
   rw [hd] at k115
   rw [hr] at k125
   refine aK (ob0:= []) [] Tryz.func57 rfl rfl rfl rfl ?_
   exact Wz
theorem aWV {c:Dc} (h:Ok c) {f off:Nat} {s:ByteArray} (hf:f<c.fl.length)(hb:off+s.size<=128):Ok (jS c f off s).1:=by
 unfold jS
 cases(s.size==0) with
 |true=>exact h
 |false=>
  rw [cond_false]
  obtain⟨o1,o2,o3,o4⟩:=qU h ((off+s.size:Nat):Int) hf
  obtain⟨w1,w2,w3⟩:=qV o1 (s:=s) (off:=off) (show f< (cB c f ((off+s.size:Nat):Int)).1.fl.length by rw [o2];exact hf) hb _ (zK _)
  have hfe:f< (kI (cB c f ((off+s.size:Nat):Int)).1 f off s (cnt off s.size)).fl.length:=by rw [w2,o2];exact hf
  have hsz:=(w1.file f hfe).size
  cases eR c f off s.size true (cnt off s.size) with
  |none=>exact h
  |some L=>
   dsimp only
   cases((cB c f ((off+s.size:Nat):Int)).2==4) with
   |true=>exact h
   |false=>
    rw [cond_false]
    cases(L.isEmpty&&(cB c f ((off+s.size:Nat):Int)).2==0) with
    |false=>exact h
    |true=>exact w1.sz hfe (by omega)
theorem aQM {c:Dc} (h:Ok c)(f off:Int)(s:ByteArray):Ok (aBL c f off s).1:=by
 unfold aBL
 cases hr:eX c f off s.size with
 |false=>exact h
 |true=>
  obtain⟨f,off,n,rfl,rfl,e,hf,hb⟩:=dU hr
  exact aWV h hf (by omega)
structure Sh(c d:Dc):Prop where
 fl:d.fl.length=c.fl.length
 fr:d.fr.length=c.fr.length
 zo:d.zo.length=c.zo.length
 gr:d.gr.length=c.gr.length
theorem Sh.refl(c:Dc):Sh c c:=⟨rfl,rfl,rfl,rfl⟩
theorem Sh.trans {a b c:Dc} (h:Sh a b)(k:Sh b c):Sh a c:=⟨k.fl.trans h.fl,k.fr.trans h.fr,k.zo.trans h.zo,k.gr.trans h.gr⟩
theorem aR9(l:List Zn)(f:Int):(eG l l f).1.length=l.length:=by
 unfold eG
 cases bF l with
 |false=>rfl
 |true=>
  cases decide (dR (inG f) l<0) with
  |true=>rfl
  |false=>
   cases aAS (l.getD (dR (inG f) l).toNat gD).free f with
   |true=>rfl
   |false=>exact zA ..
theorem aSG(g:List Gr)(t:Nat):(gB g t).1.length=g.length:=by
 unfold gB
 cases decide ((g.getD t g0).chg<1) with
 |true=>rfl
 |false=>exact rP _ _ _
theorem aJM(g:List Gr)(t:Nat):(cK g t).1.length=g.length:=by
 unfold cK
 cases decide ((g.getD t g0).lim- (g.getD t g0).chg<1) with
 |true=>rfl
 |false=>exact rP _ _ _
theorem Sh.put(c:Dc)(m:Nat)(u:Us):Sh c (c.put m u):=⟨zA ..,zA ..,rfl,rfl⟩
theorem Sh.pts(c:Dc)(l:List Pt):Sh c (c.pts l):=⟨rfl,rfl,rfl,rfl⟩
theorem Sh.acc(c:Dc)(m t:Nat):Sh c (c.acc m t):=⟨rfl,rfl,rfl,rfl⟩
theorem Sh.gone(c:Dc)(m:Nat)(u:Us)(v:Int):Sh c (c.gone m u v):=⟨zA ..,zA ..,aR9 _ _,aSG _ _⟩
theorem Sh.evi(c:Dc)(m:Nat)(u:Us):Sh c (c.evi m u):=
 have k:=Sh.gone c m u (0- (c.ck.getD u.ten 0+1))
 ⟨k.fl,k.fr,k.zo,k.gr⟩
theorem Sh.ins(c:Dc)(f p t:Nat) {z:List Zn} {g:List Gr} (m:Nat)(hz:z.length=c.zo.length)(hg:g.length=c.gr.length):Sh c (c.ins f p t z g m):=⟨zA ..,zA ..,hz,hg⟩
theorem Sh.fl1(c:Dc)(f:Nat)(x:Df):Sh c ⟨c.fl.set f x,c.fr,c.zo,c.gr,c.ls,c.ck,c.pt⟩:=⟨zA ..,rfl,rfl,rfl⟩
theorem Sh.wi1(c:Dc)(f off n p:Nat):Sh c (aA8 c f off n p):=by
 unfold aA8
 cases oZ c f off n p with
 |true=>
  cases eA c f p with
  |none=>exact(Sh.fl1 c _ _).trans (Sh.fl1 _ _ _)
  |some x=>exact(Sh.gone c _ _ _).trans (Sh.fl1 _ _ _)
 |false=>
  cases eA c f p with
  |none=>exact Sh.refl c
  |some x=>exact Sh.put c _ _
theorem Sh.wiL(c:Dc)(f off n:Nat):∀k,Sh c (sS c f off n k)
 |0=>Sh.refl c
 |k+1=>(Sh.wiL c f off n k).trans (Sh.wi1 _ _ _ _ _)
theorem Sh.soi(c:Dc)(f:Nat)(e:Int):Sh c (cB c f e).1:=by
 unfold cB
 split
 ·exact Sh.refl c
 ·split
  ·exact Sh.refl c
  ·cases(jC false _ _==0) with
   |true=>exact Sh.put c _ _
   |false=>exact Sh.refl c
theorem Sh.wr_(c:Dc)(f off:Nat)(s:ByteArray):∀k,Sh c (kI c f off s k)
 |0=>Sh.refl c
 |k+1=>by
  have ih:=Sh.wr_ c f off s k
  rw [kI]
  split
  ·exact(ih.trans (Sh.put _ _ _)).trans (Sh.acc _ _ _)
  ·exact ih
theorem Sh.writ(c:Dc)(f off:Int)(s:ByteArray):Sh c (aBL c f off s).1:=by
 unfold aBL
 cases eX c f off s.size with
 |false=>exact Sh.refl c
 |true=>
  rw [cond_true]
  unfold jS
  cases(s.size==0) with
  |true=>exact Sh.refl c
  |false=>
   rw [cond_false]
   cases eR c f.toNat off.toNat s.size true (cnt off.toNat s.size) with
   |none=>exact Sh.refl c
   |some L=>
    dsimp only
    cases((cB c f.toNat ((off.toNat+s.size:Nat):Int)).2==4) with
    |true=>exact Sh.refl c
    |false=>
     rw [cond_false]
     cases(L.isEmpty&&(cB c f.toNat ((off.toNat+s.size:Nat):Int)).2==0) with
     |false=>exact Sh.refl c
     |true=>exact((Sh.soi c _ _).trans (Sh.wr_ _ _ _ _ _)).trans (Sh.fl1 _ _ _)
theorem Sh.ev(c:Dc)(n:Int):Sh c (evG c n).1:=by
 unfold evG
 split
 ·exact Sh.refl c
 ·rename_i m u e
  cases(mA u&&decide (u.p.d=0)) with
  |false=>exact Sh.refl c
  |true=>exact Sh.evi c m u
theorem Sh.hol(c:Dc)(n k:Int):Sh c (aCM c n k).1:=by
 unfold aCM
 split
 ·exact Sh.refl c
 ·rename_i m u e
  cases decide ((-255<=k/\k<=255)/\0<=(u.holds:Int)+k/\(u.holds:Int)+k<=255) with
  |false=>exact Sh.refl c
  |true=>exact Sh.put c _ _
theorem Sh.rb(c:Dc)(n k:Int):Sh c (rbG c n k).1:=by
 unfold rbG
 split
 ·exact Sh.refl c
 ·rename_i m u e
  cases decide ((1<=k/\k<=3)/\k.toNat &&& (u.p.v ||| u.rd)=0) with
  |false=>exact Sh.refl c
  |true=>exact Sh.put c _ _
theorem Sh.re(c:Dc)(n:Int)(d:ByteArray)(ok:Bool):Sh c (reG c n d ok).1:=by
 unfold reG
 split
 ·exact Sh.refl c
 ·rename_i m u e
  unfold aA1
  cases(u.rd==0) with
  |true=>exact Sh.refl c
  |false=>
   cases(ok&&decide (d.size≠16)) with
   |true=>exact Sh.refl c
   |false=>exact Sh.put c _ _
theorem Sh.bg(c:Dc)(n:Int):Sh c (bgG c n).1:=by
 unfold bgG
 split
 ·exact Sh.refl c
 ·rename_i m u e
  cases(u.wr==0) with
  |false=>exact Sh.refl c
  |true=>
   cases(u.p.d==0) with
   |true=>exact Sh.refl c
   |false=>exact(Sh.put c _ _).trans (Sh.pts _ _)
theorem Sh.en(c:Dc)(n e:Int):Sh c (enG c n e).1:=by
 unfold enG
 split
 ·exact Sh.refl c
 ·rename_i m u x
  cases(u.wr==0) with
  |true=>exact Sh.refl c
  |false=>
   rw [cond_false]
   unfold aMY
   cases(e==0) with
   |true=>exact(Sh.put c _ _).trans (Sh.fl1 _ _ _)
   |false=>exact(Sh.put c _ _).trans (Sh.fl1 _ _ _)
theorem Sh.iZ(c:Dc)(f p t pf:Int)(ur:Bool):Sh c (iZ c f p t pf ur).1:=by
 unfold Go.Proofs.YtmhapcbjjpadnaaGreat.iZ
 cases inI c f p t pf with
 |false=>exact Sh.refl c
 |true=>
  rw [cond_true]
  unfold eU
  cases decide (0< ((c.fl.getD f.toNat aP).E p.toNat).1) with
  |true=>exact Sh.refl c
  |false=>
   rw [cond_false]
   cases((cK c.gr t.toNat).2==0) with
   |false=>exact Sh.refl c
   |true=>
    rw [cond_true]
    cases((cJ c.zo c.zo pf ur).2.2==0) with
    |false=>exact Sh.refl c
    |true=>exact Sh.ins c _ _ _ _ aSF (aJM _ _)
theorem Sh.ent(c:Dc)(pr pg f a:Int)(w:Bool):Sh c (aAM c pr pg f a w).1:=by
 unfold aAM
 cases inE c pr pg f a with
 |false=>exact Sh.refl c
 |true=>
  rw [cond_true]
  unfold aR4
  cases decide ((c.fl.getD f.toNat aP).size<=a.toNat*16) with
  |true=>exact Sh.refl c
  |false=>
   rw [cond_false]
   split
   ·exact Sh.refl c
   ·rename_i m u e
    cases(decide (u.p.v≠3)||(w&&decide (u.wr≠0))) with
    |true=>exact Sh.refl c
    |false=>exact((Sh.put c _ _).trans (Sh.acc _ _ _)).trans (Sh.pts _ _)
theorem Sh.pun(c:Dc)(f off n:Int):Sh c (vZ c f off n).1:=by
 unfold vZ
 cases eX c f off n with
 |false=>exact Sh.refl c
 |true=>
  rw [cond_true]
  unfold aNN
  cases(cW c f.toNat off.toNat (bS c f.toNat off.toNat n.toNat) (cnt off.toNat (bS c f.toNat off.toNat n.toNat))).2.2 with
  |false=>exact Sh.refl c
  |true=>exact Sh.wiL c _ _ _ _
theorem Sh.trn(c:Dc)(f z:Int):Sh c (rG c f z).1:=by
 unfold rG
 cases eX c f z 0 with
 |false=>exact Sh.refl c
 |true=>
  rw [cond_true]
  unfold aO2
  cases((cB c f.toNat (z.toNat:Int)).2==0) with
  |false=>exact Sh.refl c
  |true=>
   rw [cond_true]
   cases(cW c f.toNat z.toNat (bS c f.toNat z.toNat (128-z.toNat)) (cnt z.toNat (bS c f.toNat z.toNat (128-z.toNat)))).2.2 with
   |false=>exact Sh.refl c
   |true=>exact((Sh.soi c _ _).trans (Sh.wiL _ _ _ _ _)).trans (Sh.fl1 _ _ _)
end Go.Proofs.YtmhapcbjjpadnaaGreat
namespace Go.Proofs.YtmhapcbjjpadnaaGreat
open Go Go.Sk Go.RowKit
theorem bJV(off n:Nat)(h:1<=n)(h2:off+n<=128):aM Tryz.prog 66 [] [.int .i64 (off:Int),.int .i64 (n:Int)] (.sl 0 0 (oC off n)) [.row 1 (pgR (off/16) (oC off n))]:=by
 have k125:=pJ (off:Int) (n:Int)
 rw [iN h2] at k125
 have e:oC off n=(off+n+15)/16-off/16:=rfl
 have hc:=fK h2
 unfold cnt at hc
 rw [decide_eq_false (show ¬n=0 by omega),cond_false] at hc
 refine aK (ob0:= []) [] Tryz.func66 rfl rfl rfl rfl ?_
 refine Wx ?_
 refine Lp (λi:Nat=>i<=oC off n) (λi=> [(6,.int .i64 ((off/16+i:Nat):Int)),(5,.sl 0 0 i)]) (λi=> [(0,.row 1 (pgR (off/16) i))]) (λi=>oC off n-i) 0 (zE _) ?_ ?_
 ·exact Vr [none]
 intro i hi
 refine Wx ?_
 refine fP (λb=>?_) (λb=>?_)
 ·refine Wx ?_
  refine Le (i+1) (hv:=?_)
  simp only [aES]
  exact Vr [_]
 obtain rfl:i=oC off n:=by omega
 exact Wo
def pQ(c:Dc)(f:Nat)(off n:Int):List Int:=(bif decide (1<=n)&&gE off n then(List.range' (off.toNat/16) (oC off.toNat n.toNat)).map (λx:Nat=>(x:Int)) else [])++(match eZ (c.fl.getD f aP) (off+n) with |some (p,_)=> [(p:Int)] |none=> [])
theorem aZN {c:Dc} (h:Ok c) {f:Nat} (hf:f<c.fl.length)(off n:Int):(pQ c f off n).length<=9/\∀x∈pQ c f off n,∃p:Nat,x=(p:Int)/\p<8:=by
 unfold pQ
 have ht:∀(o:Option (Nat×Nat)),eZ (c.fl.getD f aP) (off+n)=o->(match o with |some (p,_)=> [(p:Int)] |none=> []).length<=1/\∀x∈(match o with |some (p,_)=> [(p:Int)] |none=> []),∃p:Nat,x=(p:Int)/\p<8:=by
  intro o ho
  cases o with
  |none=>exact⟨zE _,λx hx=>by cases hx⟩
  |some y=>
   obtain⟨p,s⟩:=y
   obtain⟨t1,-⟩:=mQ ho (h.file f hf).size
   exact⟨zK _,λx hx=>⟨p,List.mem_singleton.1 hx,t1⟩⟩
 obtain⟨t1,t2⟩:=ht _ rfl
 cases hd:(decide (1<=n)&&gE off n) with
 |false=>
  rw [cond_false]
  exact⟨by rw [List.nil_append];omega,λx hx=>t2 x (by simpa using hx)⟩
 |true=>
  rw [cond_true]
  have hd:=Bool.and_eq_true_iff.1 hd
  have h1:=of_decide_eq_true hd.1
  obtain⟨a,b,rfl,rfl,hb⟩:=aHD hd.2
  rw [zH,zH]
  have hc:=fK hb
  unfold cnt at hc
  rw [decide_eq_false (show ¬b=0 by omega),cond_false] at hc
  refine⟨by rw [zC,List.length_map,List.length_range'];omega,λx hx=>?_⟩
  rcases List.mem_append.1 hx with hx |hx
  ·obtain⟨y,hy,rfl⟩:=List.mem_map.1 hx
   rw [List.mem_range'_1] at hy
   exact⟨y,rfl,by omega⟩
  ·exact t2 x hx
def aII(d:Dc)(f:Nat)(p:Int)(n:Int):Dc:=match fA d n with
 |none=>d
 |some (m,u)=>bif !(jC false 3 (u.p.v ||| u.rd)==0)&&u.rd==0 then(reG (rbG d n (jC false 3 (u.p.v ||| u.rd):Nat)).1 n (rT f p.toNat) true).1 else d
def aNR(c:Dc)(f:Nat)(p:Int):Dc:=match eA c f p.toNat with
 |some (m,u)=>aII c f p ((m+1:Nat):Int)
 |none=>bif (iZ c f p 0 ((c.zo.length:Int)-1) true).2.2==0 then aII (iZ c f p 0 ((c.zo.length:Int)-1) true).1 f p (iZ c f p 0 ((c.zo.length:Int)-1) true).2.1 else c
def aA0(c:Dc)(f:Nat)(ps:List Int):Nat->Dc
 |0=>c
 |k+1=>aNR (aA0 c f ps k) f (ps.getD k 0)
theorem aPS {d:Dc} (h:Ok d)(f:Nat)(p n:Int):Ok (aII d f p n)/\Sh d (aII d f p n):=by
 unfold aII
 split
 ·exact⟨h,Sh.refl d⟩
 ·cases(!(jC false 3 (_ ||| _)==0)&&_==0) with
  |false=>exact⟨h,Sh.refl d⟩
  |true=>exact⟨aVZ (aEX h _ _) _ _ _,(Sh.rb d _ _).trans (Sh.re _ _ _ _)⟩
theorem aZL {c:Dc} (h:Ok c)(f:Nat)(p:Int):Ok (aNR c f p)/\Sh c (aNR c f p):=by
 unfold aNR
 split
 ·exact aPS h _ _ _
 ·cases((iZ c f p 0 ((c.zo.length:Int)-1) true).2.2==0) with
  |false=>exact⟨h,Sh.refl c⟩
  |true=>
   obtain⟨h1,h2⟩:=aPS (aD2 h f p 0 ((c.zo.length:Int)-1) true) f p (iZ c f p 0 ((c.zo.length:Int)-1) true).2.1
   exact⟨h1,(Sh.iZ c _ _ _ _ _).trans h2⟩
theorem tK {c:Dc} (h:Ok c)(f:Nat)(ps:List Int):∀k,Ok (aA0 c f ps k)/\Sh c (aA0 c f ps k)
 |0=>⟨h,Sh.refl c⟩
 |k+1=>by
  obtain⟨h1,h2⟩:=tK h f ps k
  obtain⟨h3,h4⟩:=aZL h1 f (ps.getD k 0)
  exact⟨h3,h2.trans h4⟩
theorem aU0 {c:Dc} (h:Ok c) {f p t pf:Int} {ur:Bool} (e:(iZ c f p t pf ur).2.2=0):∃(m:Nat) (u:Us),(iZ c f p t pf ur).2.1=((m+1:Nat):Int)/\m< (iZ c f p t pf ur).1.fr.length/\(iZ c f p t pf ur).1.fr.getD m none=some u:=by
 unfold iZ at e⊢
 cases hi:inI c f p t pf with
 |false=>rw [hi] at e;cases e
 |true=>
  rw [hi,cond_true] at e
  rw [cond_true]
  unfold eU at e⊢
  cases h1:decide (0< ((c.fl.getD f.toNat aP).E p.toNat).1) with
  |true=>rw [h1] at e;cases e
  |false=>
   rw [h1,cond_false] at e
   rw [cond_false]
   cases h2:((cK c.gr t.toNat).2==0) with
   |false=>rw [h2,cond_false] at e;rw [e] at h2;cases h2
   |true=>
    rw [h2,cond_true] at e
    rw [cond_true]
    cases h3:((cJ c.zo c.zo pf ur).2.2==0) with
    |false=>rw [h3,cond_false] at e;rw [e] at h3;cases h3
    |true=>
     rw [cond_true]
     obtain⟨m,m1,m2,m3⟩:=take_at h (eq_of_beq h3)
     dsimp only
     rw [m2,show(((m+1:Nat):Int)-1).toNat=m by omega]
     exact⟨m,vL c f.toNat p.toNat t.toNat,rfl,by show m< (c.fr.set m _).length;rw [zA];exact m1,aJ _ _ _ _ m1⟩
end Go.Proofs.YtmhapcbjjpadnaaGreat
