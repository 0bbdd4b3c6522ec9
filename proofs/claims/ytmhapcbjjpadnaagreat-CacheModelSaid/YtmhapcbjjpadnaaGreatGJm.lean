/- Caches. -/
import Derived.Test.YtmhapcbjjpadnaaGreatGIm
import Derived.Test.YtmhapcbjjpadnaaGreatGHm
import Derived.Test.YtmhapcbjjpadnaaGreatXRKm
import Derived.Test.YtmhapcbjjpadnaaGreatG8m
import Derived.Test.YtmhapcbjjpadnaaGreatGGm
import Derived.Test.YtmhapcbjjpadnaaGreatK8m
import Derived.Test.YtmhapcbjjpadnaaGreatXRNm
set_option linter.unusedSimpArgs false
set_option linter.unusedVariables false
open List renaming length_set→zA,length_append→zC
open Nat renaming or_lt_two_pow→zD
set_option linter.constructorNameAsVariable false
set_option maxRecDepth 40000
namespace Go.Proofs.YtmhapcbjjpadnaaGreat
open Go Go.Sk Go.RowKit
set_option maxRecDepth 20000 in
set_option maxHeartbeats 1000000 in
theorem bCA(c:Dc)(n:Nat)(u:Us)(hc:SmD c)(h:tM (c.setU n u) n u):aQ Tryz.prog 155 [] [.agg c.c,.int .i64 ((n+1:Nat):Int),.agg u.c] (.agg (c.put n u).o) (c.put n u).ob:=by
 have hn:n<c.fr.length:=by have :=h.at_;simpa [Dc.setU] using this
 have hs':SmD (c.setU n u):=⟨hc.fl,by show(c.fr.set n (some u)).length≤64;rw [zA];exact hc.fr,hc.gr,hc.ls,hc.ck⟩
 have k252:=bFN (c.setU n u) n u hs' h
 have k85:=bJJ c hc
 unfold Dc.put
 obtain⟨fl,fr,zo,gr,ls,ck,pt⟩:=c
 have hfr:=hc.fr
 dsimp only at hn hfr
 have hset:(bE fr).set n (aR 9 ((bE fr).getD n []) 0 u.c)=bE (fr.set n (some u)):=by
  rw [jM fr n hn]
  have :aR 9 (frC (fr.getD n none)) 0 u.c=u.c:=by cases fr.getD n none <;> rfl
  rw [this];unfold bE;rw [List.map_set];rfl
 generalize hq:(Dc.setU ⟨fl,fr,zo,gr,ls,ck,pt⟩ n u).mark u=q at k252⊢
 obtain⟨fl2,fr2,zo2,gr2,ls2,ck2,pt2⟩:=q
 unfold Dc.o Dc.ob Dc.setU at k252
 unfold Dc.o Dc.ob
 dsimp only at k252⊢
 rw [zA,←hset] at k252
 refine aF (ob0:= []) [] Tryz.func155 rfl rfl rfl rfl ?_
 refine Wk ?_
 refine .inr ⟨fun _=>⟨[],_,_,_,k85,trivial,rfl,rfl,rfl,?_⟩,(by intro h;cases h)⟩
 refine Wk ?_
 rw [aY (n:=((n+1:Nat):Int)-1) (by omega) (by omega),show((n+1:Nat):Int)-1=(n:Int) by omega,show decide (0≤(n:Int)∧(n:Int)< (fr.length:Int))=true from decide_eq_true ⟨by omega,by omega⟩]
 refine Wk ?_
 rw [show 0+(n:Int).toNat=n by omega,show decide (n< (bE fr).length)=true from decide_eq_true (by rw [eV];exact hn)]
 refine Wk ?_
 refine .inr ⟨fun _=>⟨[3,4,5,6,7],_,_,_,k252,⟨rfl,rfl,rfl,rfl,rfl,trivial⟩,rfl,rfl,rfl,?_⟩,(by intro h;cases h)⟩
 refine Wk ?_
 try subst hk
 exact⟨[some 3,some 4,some 5,some 6,some 7],Cl,rfl,Cl,rfl,Cl⟩
theorem Ok.p155q {c:Dc} (h:Ok c) {n:Nat} {u u':Us} (hn:n<c.fr.length)(hu:c.fr.getD n none=some u)(hk:gW u'=gW u)(hp:dU u'.p)(hr:u'.rd<4)(hw:u'.wr<4):aQ Tryz.prog 155 [] [.agg c.c,.int .i64 ((n+1:Nat):Int),.agg u'.c] (.agg (c.put n u').o) (c.put n u').ob:=by
 have k:=h.use n u hn hu
 have f:=h.file _ k.file
 simp only [gW,Prod.mk.injEq] at hk
 obtain⟨k1,k2,k3⟩:=hk
 refine bCA c n u' h.sm ⟨by show n< (c.fr.set n (some u')).length;rw [zA];exact hn,aD _ _ _ _ hn,?_,?_,?_,?_,?_,hp,?_,hr,hw⟩
 ·rw [k1];exact k.file
 ·rw [k2];have :=k.page;omega
 ·show bK (c.fl.getD u'.file aK).E;rw [k1];exact f.E
 ·show tJ (c.fl.getD u'.file aK).E;rw [k1];exact f.sup
 ·show 0< ((c.fl.getD u'.file aK).E u'.page).1;rw [k1,k2,k.val];omega
 ·rw [k3];show u.ten<c.ls.length;rw [h.nl];exact k.ten
def bID(u:Us)(s:Nat):Us:=⟨u.file,u.page,bB8 u.p s,u.ten,u.holds,u.rd,s⟩
def bIC(c:Dc)(u:Us):Nat:=bif eU (c.fl.getD u.file aK).blocks u.page then 3 else u.p.d
def bIB(c:Dc)(m:Nat)(u:Us):Dc:=(c.put m (bID u (bIC c u))).pts (c.pt.map (bJL ((m+1:Nat):Int)))
end Go.Proofs.YtmhapcbjjpadnaaGreat
set_option maxRecDepth 40000
namespace Go.Proofs.YtmhapcbjjpadnaaGreat
open Go Go.Sk Go.RowKit
def fer(f:Df)(a b:Int):Df:=⟨f.dev,f.slot,f.E,f.size,f.blocks,a,b⟩
def onB(b p:Nat):Nat:=b ||| 2^p
def Dc.blo(c:Dc)(f p:Nat):Dc:=⟨c.fl.set f (fbl (c.fl.getD f aK) (onB (c.fl.getD f aK).blocks p)),c.fr,c.zo,c.gr,c.ls,c.ck,c.pt⟩
def Dc.ers(c:Dc)(f:Nat)(e:Int):Dc:=⟨c.fl.set f (fer (c.fl.getD f aK) (bH0 (c.fl.getD f aK).ec (c.fl.getD f aK).ee e).1 (bH0 (c.fl.getD f aK).ec (c.fl.getD f aK).ee e).2),c.fr,c.zo,c.gr,c.ls,c.ck,c.pt⟩
theorem Ok.fl1 {c:Dc} (h:Ok c) {f:Nat} (hf:f<c.fl.length) {x:Df} (hx:OkF x)(hE:x.E=(c.fl.getD f aK).E):Ok ⟨c.fl.set f x,c.fr,c.zo,c.gr,c.ls,c.ck,c.pt⟩:=by
 refine h.same (zA ..) (fun g q=>?_) (fun g hg=>?_) rfl (fun _=>rfl) (fun m v hm hv=>?_) rfl rfl rfl h.ls (fun _ _ hx=>hx) rfl h.pt
 ·show(((c.fl.set f x).getD g aK).E q).1=_
  by_cases e:g=f
  ·subst e;rw [aD _ _ _ _ hf,hE]
  ·rw [getD_set_ne _ _ _ e]
 ·show OkF ((c.fl.set f x).getD g aK)
  by_cases e:g=f
  ·subst e;rw [aD _ _ _ _ hf];exact hx
  ·rw [getD_set_ne _ _ _ e];exact h.file g hg
 ·have :=h.use m v hm hv
  exact⟨this.pg,this.holds,this.rd,this.wr⟩
theorem Ok.blo {c:Dc} (h:Ok c) {f p:Nat} (hf:f<c.fl.length)(hp:p<8):Ok (c.blo f p):=by
 have k:=h.file f hf
 exact h.fl1 hf ⟨k.E,k.sup,k.lo,k.size,zD (n:=8) k.blocks (Nat.pow_lt_pow_right (by omega) hp),k.ec,k.ee⟩ rfl
def bEI(u:Us)(e:Int):Us:=⟨u.file,u.page,bif e==0 then u.p else gM u.p u.wr,u.ten,u.holds,u.rd,0⟩
def bII(c:Dc)(m:Nat)(u:Us)(e:Int):Dc:=bif e==0 then(c.put m (bEI u e)).blo u.file u.page else(c.put m (bEI u e)).ers u.file e
end Go.Proofs.YtmhapcbjjpadnaaGreat
set_option maxRecDepth 40000
namespace Go.Proofs.YtmhapcbjjpadnaaGreat
open Go Go.Sk Go.RowKit
theorem draw(L:List Int) {J:Nat} (hL:(L.length:Int)<2^62)(hJ:J≤L.length)(n:Int)(h0:0<n)(h1:n<1000000000):
 ∃v J':Nat,(v:Int)<n∧J'≤L.length∧aQ Tryz.prog 15 [tpO L J] [.ptr 0 0 0,.int .i64 n] (.int .i64 (v:Int)) [tpO L J']:=by
 have a:=aT0 L J n h0 (by omega)
 refine⟨(nxV L J n).toNat,nxI L J,by omega,aSZ L J hJ,?_⟩
 rw [show(((nxV L J n).toNat:Nat):Int)=nxV L J n by omega]
 exact aZL L J n hL hJ h0 (by omega)
theorem aQF(a:List Int)(x:Int):aJ (a++ [x])=aJ a++ [[.int .i64 x]]:=by simp [aJ]
def bEG(f p:Nat)(i:Nat):List UInt8:=(List.range 16).map fun j=>bif decide (j<i) then UInt8.ofNat (65+(f*7+p*3+j)%26) else 0
def bEH(f p:Nat):ByteArray:=⟨(bEG f p 16).toArray⟩
end Go.Proofs.YtmhapcbjjpadnaaGreat
set_option maxRecDepth 40000
namespace Go.Proofs.YtmhapcbjjpadnaaGreat
open Go Go.Sk Go.RowKit
theorem aQC(l:List UInt8)(i:Nat)(b:UInt8):(cJ l).set i [.int .u8 (b.toNat:Int)]=cJ (l.set i b):=by unfold cJ;rw [List.map_set]
def abc(v:Int):UInt8:=UInt8.ofNat (97+v.toNat)
def mP(L:List Int)(J:Nat):Nat→Nat×List UInt8
 |0=>(J,[])
 |k+1=>(nxI L (mP L J k).1,(mP L J k).2++ [abc (nxV L (mP L J k).1 8)])
theorem tP(L:List Int) {J:Nat} (hJ:J≤L.length):∀k,(mP L J k).1≤L.length∧(mP L J k).2.length=k
 |0=>⟨hJ,rfl⟩
 |k+1=>by
  obtain⟨h1,h2⟩:=tP L hJ k
  exact⟨aSZ L _ h1,by rw [mP,zC,h2];rfl⟩
def aHP(L:List Int)(J n i:Nat):List (List V):=cJ (mP L J i).2++List.replicate (n-i) [.int .u8 0]
theorem aHQ(L:List Int) {J:Nat} (hJ:J≤L.length) {n i:Nat} (h:i≤n):(aHP L J n i).length=n:=by
 unfold aHP
 rw [zC,kM,(tP L hJ i).2,List.length_replicate];omega
theorem aP6(L:List Int) {J:Nat} (hJ:J≤L.length) {n i:Nat} (h:i<n):aHP L J n (i+1)=(aHP L J n i).set i [.int .u8 ((abc (nxV L (mP L J i).1 8)).toNat:Int)]:=by
 have hl:=(tP L hJ i).2
 unfold aHP
 rw [mP]
 obtain⟨k,hk⟩:∃k,n-i=k+1:=⟨n-i-1,by omega⟩
 rw [hk,show n- (i+1)=k by omega,List.replicate_succ,List.set_append,if_neg (by rw [kM,hl];omega),kM,hl,Nat.sub_self,List.set_cons_zero]
 simp [cJ]
theorem aRG(L:List Int) {J:Nat} (hJ:J≤L.length)(n:Nat):fM (List.take n (List.drop 0 (aHP L J n n)))=some (mP L J n).2:=by
 rw [List.drop_zero,List.take_of_length_le (by rw [aHQ L hJ (Nat.le_refl n)];omega)]
 unfold aHP
 rw [Nat.sub_self,List.replicate_zero,List.append_nil];exact iN _
set_option maxHeartbeats 4000000 in
theorem bJ6(L:List Int) {J:Nat} (hL:(L.length:Int)<2^62)(hJ:J≤L.length)(n:Nat)(hn:n≤1000):
 ∃(s:ByteArray) (J':Nat),s.size=n∧J'≤L.length∧aQ Tryz.prog 48 [tpO L J] [.ptr 0 0 0,.int .i64 (n:Int)] (.str s) [tpO L J']:=by
 have hf:=tP L hJ n
 refine⟨⟨(mP L J n).2.toArray⟩,(mP L J n).1,by show(mP L J n).2.toArray.size=n;rw [List.size_toArray];exact hf.2,hf.1,?_⟩
 have hall:=aRG L hJ n
 refine bM (ob0:= [tpO L J]) [] Tryz.func48 rfl rfl rfl rfl ?_
 refine Wx ?_
 rw [mkT (by omega) (by omega)]
 refine Wx ?_
 refine Lp (fun i:Nat=>i≤n) (fun i=> [(11,.int .i64 (i:Int))]) (fun i=> [(0,tpO L (mP L J i).1),(1,.row 1 (aHP L J n i))]) (fun i=>n-i) 0 (Nat.zero_le _) ?_ ?_
 ·exact Vr [_,_]
 intro i hi
 have hl:=aHQ L hJ hi
 obtain⟨f1,f2⟩:=tP L hJ i
 refine Wx ?_
 refine lP (fun b=>?_) (fun b=>?_)
 ·have hs:=aP6 L hJ (show i<n by omega)
  have k15:=aZL L (mP L J i).1 8 hL f1 (by decide) (by decide)
  have hv:=aT0 L (mP L J i).1 8 (by decide) (by decide)
  have hst:(mP L J (i+1)).1=nxI L (mP L J i).1:=rfl
  generalize nxV L (mP L J i).1 8=v at *
  generalize nxI L (mP L J i).1=J1 at *
  generalize(mP L J i).1=J0 at *
  have h8:v=0∨v=1∨v=2∨v=3∨v=4∨v=5∨v=6∨v=7:=by omega
  rcases h8 with rfl |rfl |rfl |rfl |rfl |rfl |rfl |rfl
  all_goals
   refine Wx ?_
   refine Le (i+1) (hv:=?_)
   simp only [hs,hst]
   exact Vr [_,_]
 obtain rfl:i=n:=by omega
 exact Wo
end Go.Proofs.YtmhapcbjjpadnaaGreat
set_option maxRecDepth 40000
namespace Go.Proofs.YtmhapcbjjpadnaaGreat
open Go Go.Sk Go.RowKit
def eG(c:Dc)(n:Int):Option (Nat×Us):=bif oA c n then(c.fr.getD (n-1).toNat none).map fun u=>((n-1).toNat,u) else none
theorem cK(c:Dc)(n:Int):(eG c n=none∧oA c n=false)∨∃(m:Nat) (u:Us),eG c n=some (m,u)∧n=((m+1:Nat):Int)∧m<c.fr.length∧c.fr.getD m none=some u:=by
 unfold eG
 rcases aM7 c n with h | ⟨m,u,rfl,h1,h2⟩
 ·rw [h];exact .inl ⟨rfl,rfl⟩
 ·refine .inr ⟨m,u,?_,rfl,h1,h2⟩
  rw [rW h1 h2,show(((m+1:Nat):Int)-1).toNat=m by omega,h2];rfl
theorem Ok.goodS {c:Dc} (h:Ok c) {n:Nat} {u u':Us} (hn:n<c.fr.length)(hu:c.fr.getD n none=some u)(hk:gW u'=gW u)(hp:dU u'.p)(hr:u'.rd<4)(hw:u'.wr<4):tM (c.setU n u') n u':=by
 have k:=h.use n u hn hu
 have f:=h.file _ k.file
 simp only [gW,Prod.mk.injEq] at hk
 obtain⟨k1,k2,k3⟩:=hk
 refine⟨by show n< (c.fr.set n (some u')).length;rw [zA];exact hn,aD _ _ _ _ hn,?_,?_,?_,?_,?_,hp,?_,hr,hw⟩
 ·rw [k1];exact k.file
 ·rw [k2];have :=k.page;omega
 ·show bK (c.fl.getD u'.file aK).E;rw [k1];exact f.E
 ·show tJ (c.fl.getD u'.file aK).E;rw [k1];exact f.sup
 ·show 0< ((c.fl.getD u'.file aK).E u'.page).1;rw [k1,k2,k.val];omega
 ·rw [k3];show u.ten<c.ls.length;rw [h.nl];exact k.ten
def evG(c:Dc)(n:Int):Dc×Int:=match eG c n with
 |none=>(c,2)
 |some (m,u)=>bif pR u&&decide (u.p.d=0) then(c.evi m u,0) else(c,7)
theorem bBG {c:Dc} (h:Ok c)(n:Int):Ok (evG c n).1:=by
 unfold evG
 rcases cK c n with ⟨e,hu⟩| ⟨m,u,e,rfl,h1,h2⟩
 ·rw [e];exact h
 ·rw [e]
  dsimp only
  cases(pR u&&decide (u.p.d=0)) with
  |false=>exact h
  |true=>exact h.evi h1 h2
def bIP(c:Dc)(n k:Int):Dc×Int:=match eG c n with
 |none=>(c,2)
 |some (m,u)=>bif decide ((-255≤k∧k≤255)∧0≤(u.holds:Int)+k∧(u.holds:Int)+k≤255) then(c.put m (bER u ((u.holds:Int)+k).toNat),0) else(c,1)
def rbG(c:Dc)(n k:Int):Dc×Int:=match eG c n with
 |none=>(c,2)
 |some (m,u)=>bif decide ((1≤k∧k≤3)∧k.toNat &&& (u.p.v ||| u.rd)=0) then(c.put m (aFE u (u.rd ||| k.toNat)),0) else(c,1)
theorem or4 {a b:Nat} (ha:a<4)(hb:b<4):a ||| b<4:=zD (n:=2) ha hb
theorem bCY {c:Dc} (h:Ok c)(n k:Int):Ok (rbG c n k).1:=by
 unfold rbG
 rcases cK c n with ⟨e,hu⟩| ⟨m,u,e,rfl,h1,h2⟩
 ·rw [e];exact h
 ·rw [e]
  dsimp only
  have hu:=h.use m u h1 h2
  by_cases x:(1≤k∧k≤3)∧k.toNat &&& (u.p.v ||| u.rd)=0
  ·rw [decide_eq_true x]
   exact h.put h1 h2 rfl hu.pg hu.holds (or4 hu.rd (by omega)) hu.wr
  ·rw [decide_eq_false x];exact h
def reG(c:Dc)(n:Int)(d:ByteArray)(ok:Bool):Dc×Int:=match eG c n with
 |none=>(c,2)
 |some (m,u)=>uR c m u d ok
theorem bD5 {c:Dc} (h:Ok c)(n:Int)(d:ByteArray)(ok:Bool):Ok (reG c n d ok).1:=by
 unfold reG
 rcases cK c n with ⟨e,hu⟩| ⟨m,u,e,rfl,h1,h2⟩
 ·rw [e];exact h
 ·rw [e];exact aUE h h1 h2 d ok
def bgG(c:Dc)(n:Int):Dc×Int:=match eG c n with
 |none=>(c,2)
 |some (m,u)=>bif u.wr==0 then(bif u.p.d==0 then(c,4) else(bIB c m u,0)) else(c,7)
def enG(c:Dc)(n e:Int):Dc×Int:=match eG c n with
 |none=>(c,2)
 |some (m,u)=>bif u.wr==0 then(c,4) else(bII c m u e,0)
def vB(c:Dc)(f off:Int)(s:ByteArray):Dc×Int:=bif jA c f off s.size then lM c f.toNat off.toNat s else(c,2)
theorem aVA {c:Dc} (h:Ok c) {f off:Nat} {s:ByteArray} (hf:f<c.fl.length)(hb:off+s.size≤128):Ok (lM c f off s).1:=by
 unfold lM
 cases(s.size==0) with
 |true=>exact h
 |false=>
  rw [cond_false]
  obtain⟨o1,o2,o3,o4⟩:=pL h ((off+s.size:Nat):Int) hf
  obtain⟨w1,w2,w3⟩:=pO o1 (s:=s) (off:=off) (show f< (bT c f ((off+s.size:Nat):Int)).1.fl.length by rw [o2];exact hf) hb _ (Nat.le_refl _)
  have hfe:f< (iZ (bT c f ((off+s.size:Nat):Int)).1 f off s (cnt off s.size)).fl.length:=by rw [w2,o2];exact hf
  have hsz:=(w1.file f hfe).size
  cases fK c f off s.size true (cnt off s.size) with
  |none=>exact h
  |some L=>
   dsimp only
   cases((bT c f ((off+s.size:Nat):Int)).2==4) with
   |true=>exact h
   |false=>
    rw [cond_false]
    cases(L.isEmpty&&(bT c f ((off+s.size:Nat):Int)).2==0) with
    |false=>exact h
    |true=>exact w1.sz hfe (by omega)
theorem aYQ {c:Dc} (h:Ok c)(f off:Int)(s:ByteArray):Ok (vB c f off s).1:=by
 unfold vB
 cases hr:jA c f off s.size with
 |false=>exact h
 |true=>
  obtain⟨f,off,n,rfl,rfl,e,hf,hb⟩:=eC hr
  exact aVA h hf (by omega)
structure Sh(c d:Dc):Prop where
 fl:d.fl.length=c.fl.length
 fr:d.fr.length=c.fr.length
 zo:d.zo.length=c.zo.length
 gr:d.gr.length=c.gr.length
theorem Sh.refl(c:Dc):Sh c c:=⟨rfl,rfl,rfl,rfl⟩
theorem Sh.trans {a b c:Dc} (h:Sh a b)(k:Sh b c):Sh a c:=⟨k.fl.trans h.fl,k.fr.trans h.fr,k.zo.trans h.zo,k.gr.trans h.gr⟩
theorem aPI(l:List Zn)(f:Int):(eB l l f).1.length=l.length:=by
 unfold eB
 cases bH l with
 |false=>rfl
 |true=>
  cases decide (dW (inG f) l<0) with
  |true=>rfl
  |false=>
   cases aCR (l.getD (dW (inG f) l).toNat fL).free f with
   |true=>rfl
   |false=>exact zA ..
theorem aQR(g:List Gr)(t:Nat):(iX g t).1.length=g.length:=by
 unfold iX
 cases decide ((g.getD t g0).chg<1) with
 |true=>rfl
 |false=>exact qF _ _ _
theorem aHR(g:List Gr)(t:Nat):(cB g t).1.length=g.length:=by
 unfold cB
 cases decide ((g.getD t g0).lim- (g.getD t g0).chg<1) with
 |true=>rfl
 |false=>exact qF _ _ _
theorem Sh.put(c:Dc)(m:Nat)(u:Us):Sh c (c.put m u):=⟨zA ..,zA ..,rfl,rfl⟩
theorem Sh.acc(c:Dc)(m t:Nat):Sh c (c.acc m t):=⟨rfl,rfl,rfl,rfl⟩
theorem Sh.gone(c:Dc)(m:Nat)(u:Us)(v:Int):Sh c (c.gone m u v):=⟨zA ..,zA ..,aPI _ _,aQR _ _⟩
theorem Sh.evi(c:Dc)(m:Nat)(u:Us):Sh c (c.evi m u):=
 have k:=Sh.gone c m u (0- (c.ck.getD u.ten 0+1))
 ⟨k.fl,k.fr,k.zo,k.gr⟩
theorem Sh.ins(c:Dc)(f p t:Nat) {z:List Zn} {g:List Gr} (m:Nat)(hz:z.length=c.zo.length)(hg:g.length=c.gr.length):Sh c (c.ins f p t z g m):=⟨zA ..,zA ..,hz,hg⟩
theorem Sh.fl1(c:Dc)(f:Nat)(x:Df):Sh c ⟨c.fl.set f x,c.fr,c.zo,c.gr,c.ls,c.ck,c.pt⟩:=⟨zA ..,rfl,rfl,rfl⟩
theorem Sh.wi1(c:Dc)(f off n p:Nat):Sh c (sH c f off n p):=by
 unfold sH
 cases pW c f off n p with
 |true=>
  cases cC c f p with
  |none=>exact(Sh.fl1 c _ _).trans (Sh.fl1 _ _ _)
  |some x=>exact(Sh.gone c _ _ _).trans (Sh.fl1 _ _ _)
 |false=>
  cases cC c f p with
  |none=>exact Sh.refl c
  |some x=>exact Sh.put c _ _
theorem Sh.wiL(c:Dc)(f off n:Nat):∀k,Sh c (pY c f off n k)
 |0=>Sh.refl c
 |k+1=>(Sh.wiL c f off n k).trans (Sh.wi1 _ _ _ _ _)
theorem Sh.soi(c:Dc)(f:Nat)(e:Int):Sh c (bT c f e).1:=by
 unfold bT
 split
 ·exact Sh.refl c
 ·split
  ·exact Sh.refl c
  ·cases(gP false _ _==0) with
   |true=>exact Sh.put c _ _
   |false=>exact Sh.refl c
theorem Sh.wr_(c:Dc)(f off:Nat)(s:ByteArray):∀k,Sh c (iZ c f off s k)
 |0=>Sh.refl c
 |k+1=>by
  have ih:=Sh.wr_ c f off s k
  rw [iZ]
  split
  ·exact(ih.trans (Sh.put _ _ _)).trans (Sh.acc _ _ _)
  ·exact ih
theorem Sh.writ(c:Dc)(f off:Int)(s:ByteArray):Sh c (vB c f off s).1:=by
 unfold vB
 cases jA c f off s.size with
 |false=>exact Sh.refl c
 |true=>
  rw [cond_true]
  unfold lM
  cases(s.size==0) with
  |true=>exact Sh.refl c
  |false=>
   rw [cond_false]
   cases fK c f.toNat off.toNat s.size true (cnt off.toNat s.size) with
   |none=>exact Sh.refl c
   |some L=>
    dsimp only
    cases((bT c f.toNat ((off.toNat+s.size:Nat):Int)).2==4) with
    |true=>exact Sh.refl c
    |false=>
     rw [cond_false]
     cases(L.isEmpty&&(bT c f.toNat ((off.toNat+s.size:Nat):Int)).2==0) with
     |false=>exact Sh.refl c
     |true=>exact((Sh.soi c _ _).trans (Sh.wr_ _ _ _ _ _)).trans (Sh.fl1 _ _ _)
theorem Sh.ev(c:Dc)(n:Int):Sh c (evG c n).1:=by
 unfold evG
 split
 ·exact Sh.refl c
 ·rename_i m u e
  cases(pR u&&decide (u.p.d=0)) with
  |false=>exact Sh.refl c
  |true=>exact Sh.evi c m u
theorem Sh.rb(c:Dc)(n k:Int):Sh c (rbG c n k).1:=by
 unfold rbG
 split
 ·exact Sh.refl c
 ·rename_i m u e
  cases decide ((1≤k∧k≤3)∧k.toNat &&& (u.p.v ||| u.rd)=0) with
  |false=>exact Sh.refl c
  |true=>exact Sh.put c _ _
theorem Sh.re(c:Dc)(n:Int)(d:ByteArray)(ok:Bool):Sh c (reG c n d ok).1:=by
 unfold reG
 split
 ·exact Sh.refl c
 ·rename_i m u e
  unfold uR
  cases(u.rd==0) with
  |true=>exact Sh.refl c
  |false=>
   cases(ok&&decide (d.size≠16)) with
   |true=>exact Sh.refl c
   |false=>exact Sh.put c _ _
theorem Sh.jB(c:Dc)(f p t pf:Int)(ur:Bool):Sh c (jB c f p t pf ur).1:=by
 unfold Go.Proofs.YtmhapcbjjpadnaaGreat.jB
 cases inI c f p t pf with
 |false=>exact Sh.refl c
 |true=>
  rw [cond_true]
  unfold eA
  cases decide (0< ((c.fl.getD f.toNat aK).E p.toNat).1) with
  |true=>exact Sh.refl c
  |false=>
   rw [cond_false]
   cases((cB c.gr t.toNat).2==0) with
   |false=>exact Sh.refl c
   |true=>
    rw [cond_true]
    cases((bX c.zo c.zo pf ur).2.2==0) with
    |false=>exact Sh.refl c
    |true=>exact Sh.ins c _ _ _ _ aQQ (aHR _ _)
theorem Sh.pun(c:Dc)(f off n:Int):Sh c (uQ c f off n).1:=by
 unfold uQ
 cases jA c f off n with
 |false=>exact Sh.refl c
 |true=>
  rw [cond_true]
  unfold aLN
  cases(eI c f.toNat off.toNat (bY c f.toNat off.toNat n.toNat) (cnt off.toNat (bY c f.toNat off.toNat n.toNat))).2.2 with
  |false=>exact Sh.refl c
  |true=>exact Sh.wiL c _ _ _ _
theorem Sh.trn(c:Dc)(f z:Int):Sh c (uU c f z).1:=by
 unfold uU
 cases jA c f z 0 with
 |false=>exact Sh.refl c
 |true=>
  rw [cond_true]
  unfold aM5
  cases((bT c f.toNat (z.toNat:Int)).2==0) with
  |false=>exact Sh.refl c
  |true=>
   rw [cond_true]
   cases(eI c f.toNat z.toNat (bY c f.toNat z.toNat (128-z.toNat)) (cnt z.toNat (bY c f.toNat z.toNat (128-z.toNat)))).2.2 with
   |false=>exact Sh.refl c
   |true=>exact((Sh.soi c _ _).trans (Sh.wiL _ _ _ _ _)).trans (Sh.fl1 _ _ _)
end Go.Proofs.YtmhapcbjjpadnaaGreat
set_option maxRecDepth 40000
namespace Go.Proofs.YtmhapcbjjpadnaaGreat
open Go Go.Sk Go.RowKit
def bGZ(d:Dc)(f:Nat)(p:Int)(n:Int):Dc:=match eG d n with
 |none=>d
 |some (m,u)=>bif !(gP false 3 (u.p.v ||| u.rd)==0)&&u.rd==0 then(reG (rbG d n (gP false 3 (u.p.v ||| u.rd):Nat)).1 n (bEH f p.toNat) true).1 else d
def bJO(c:Dc)(f:Nat)(p:Int):Dc:=match cC c f p.toNat with
 |some (m,u)=>bGZ c f p ((m+1:Nat):Int)
 |none=>bif (jB c f p 0 ((c.zo.length:Int)-1) true).2.2==0 then bGZ (jB c f p 0 ((c.zo.length:Int)-1) true).1 f p (jB c f p 0 ((c.zo.length:Int)-1) true).2.1 else c
def bGY(c:Dc)(f:Nat)(ps:List Int):Nat→Dc
 |0=>c
 |k+1=>bJO (bGY c f ps k) f (ps.getD k 0)
end Go.Proofs.YtmhapcbjjpadnaaGreat
