/- Caches. -/
import Derived.Test.YtmhapcbjjpadnaaGreatG8m
import Derived.Test.YtmhapcbjjpadnaaGreatG7m
import Derived.Test.YtmhapcbjjpadnaaGreatG9m
import Derived.Test.YtmhapcbjjpadnaaGreatGBm
set_option linter.unusedSimpArgs false
set_option linter.unusedVariables false
open Bool renaming cond_false_right→zA,cond_true_left→zC,not_eq_false'→zD,not_eq_true'→zF,not_not→zG
open Int renaming toNat_natCast→zI
open List renaming length_set→zE,getD_eq_getElem?_getD→zH
set_option linter.constructorNameAsVariable false
set_option maxRecDepth 40000
namespace Go.Proofs.YtmhapcbjjpadnaaGreat
open Go Go.Sk Go.RowKit
def fY(s:Int):Int×Bool:=bif decide (0≤s)||decide (s< -1000001) then(0,false) else(-s-1,true)
def aCG(c s:Int):Int×Int:=bif (bif !(fY s).2 then true else decide (c≤(fY s).1)) then(0,1) else(c- (fY s).1,0)
def aVR(c s n:Int):Bool:=bif (aCG c s).2==0 then decide ((aCG c s).1≤n) else false
theorem aQO {s:Int} (h:(fY s).2=true):0≤(fY s).1∧(fY s).1≤1000000:=by
 revert h
 unfold fY
 cases h:(decide (0≤s)||decide (s< -1000001)) with
 |true=>intro h;cases h
 |false=>
  intro _
  simp only [cond_false]
  by_cases h1:0≤s
  ·rw [decide_eq_true h1] at h;cases h
  ·rw [decide_eq_false h1,Bool.false_or,decide_eq_false_iff_not] at h
   omega
theorem bA1(c:Int)(h0:0≤c)(h1:c≤1000000):aQ Tryz.prog 243 [] [.int .i64 c] (.bool true) []:=by
 refine aF (ob0:= []) [] Tryz.func243 rfl rfl rfl rfl ?_
 refine Wk ?_
 rw [show decide ((0:Int)≤c)=true from decide_eq_true h0,show decide (c≤1000000)=true from decide_eq_true h1]
 try subst hk
 exact Lf
theorem bF9(c:Int)(h0:0≤c)(h1:c≤1000000):aQ Tryz.prog 152 [] [.int .i64 c] (.tup [.int .i64 (0- (c+1)),.int .i64 0]) []:=by
 refine aF (ob0:= []) [] Tryz.func152 rfl rfl rfl rfl ?_
 refine dF (bA1 c h0 h1) ?_
 rw [aY (n:=c+1) (by omega) (by omega),aY (n:=0- (c+1)) (by omega) (by omega)]
 try subst hk
 exact Lf
theorem bGC(s:Int):aQ Tryz.prog 348 [] [.int .i64 s] (.tup [.int .i64 (fY s).1,.bool (fY s).2]) []:=by
 generalize hk:fY s=q
 unfold fY at hk
 refine aF (ob0:= []) [] Tryz.func348 rfl rfl rfl rfl ?_
 refine Wk ?_
 refine aI (fun c1=>?_) (fun c1=>?_)<;> try simp only [zC,zA,zF,zD,zG] at c1
 ·rw [c1,cond_true] at hk
  subst hk
  refine Wk ?_
  try subst hk
  exact Lf
 have c2:0-s-1= -s-1∧-(1000001:Int)≤s∧s≤0:=by
  by_cases h1:0≤s
  ·rw [decide_eq_true h1] at c1;cases c1
  ·rw [decide_eq_false h1,Bool.false_or,decide_eq_false_iff_not] at c1;omega
 obtain⟨c2,c3,c4⟩:=c2
 rw [c1,cond_false] at hk
 subst hk
 refine Wk ?_
 rw [aY (n:=0-s) (by omega) (by omega),aY (n:=0-s-1) (by omega) (by omega),c2]
 try subst hk
 exact Lf
theorem call348:eP Tryz.prog 348:=⟨_,Tryz.func348,rfl,rfl⟩
theorem bG1(s:Int):aQ Tryz.prog 315 [] [.int .i64 s] (.tup [.int .i64 (fY s).1,.bool (fY s).2]) []:=by
 have k348:=bGC s
 generalize(fY s).1=a at k348⊢
 generalize(fY s).2=b at k348⊢
 refine aF (ob0:= []) [] Tryz.func315 rfl rfl rfl rfl ?_
 refine Wk ?_
 refine⟨call348,?_⟩
 refine dF k348 ?_
 try subst hk
 exact Lf
theorem bFK(c s:Int)(h0:0≤c)(h1:c≤1000000):aQ Tryz.prog 242 [] [.int .i64 c,.int .i64 s] (.tup [.int .i64 (aCG c s).1,.int .i64 (aCG c s).2]) []:=by
 generalize hk:aCG c s=q
 unfold aCG at hk
 have k315:=bG1 s
 have hb:=aQO (s:=s)
 generalize(fY s).1=t at k315 hb hk
 generalize(fY s).2=o at k315 hb hk
 generalize hw:(bif !o then true else decide (c≤t))=w at hk
 refine aF (ob0:= []) [] Tryz.func242 rfl rfl rfl rfl ?_
 refine Wk2 (bA1 c h0 h1) k315 ?_
 rw [show(bif !o then true else decide (c≤t))=w from hw]
 cases w with
 |true=>
  rw [cond_true] at hk
  subst hk
  refine Wk ?_
  try subst hk
  exact Lf
 |false=>
  rw [cond_false] at hk
  subst hk
  have h3:=hb (by cases o;cases hw;rfl)
  refine Wk ?_
  rw [aY (n:=c-t) (by omega) (by omega)]
  try subst hk
  exact Lf
theorem bF8(c s n:Int)(h0:0≤c)(h1:c≤1000000):aQ Tryz.prog 150 [] [.int .i64 c,.int .i64 s,.int .i64 n] (.bool (aVR c s n)) []:=by
 have k:=bFK c s h0 h1
 unfold aVR
 generalize aCG c s=q at k⊢
 refine aF (ob0:= []) [] Tryz.func150 rfl rfl rfl rfl ?_
 refine dF k ?_
 try subst hk
 exact Lf
end Go.Proofs.YtmhapcbjjpadnaaGreat
set_option maxRecDepth 40000
namespace Go.Proofs.YtmhapcbjjpadnaaGreat
open Go Go.Sk Go.RowKit
def aKO(g:List Gr)(t:Nat)(n:Int):List Gr:=g.set t ⟨(g.getD t g0).lim,(g.getD t g0).pro,n⟩
theorem qF(g:List Gr)(t:Nat)(n:Int):(aKO g t n).length=g.length:=zE ..
theorem aG9 {g:List Gr} (h:vC g=true) {t:Nat} (ht:t<g.length):(1≤(g.getD t g0).lim∧(g.getD t g0).lim≤64)∧0≤(g.getD t g0).chg∧(g.getD t g0).chg≤64:=by
 simp only [vC,Bool.and_eq_true] at h
 have hb:=kC h.1 ht
 unfold aAE at hb
 simp only [aVU,Bool.or_eq_false_iff,decide_eq_false_iff_not] at hb
 omega
theorem aO1(g:List Gr)(t:Nat)(n:Int)(h:t<g.length):(bP g).set t (aR 3 ((bP g).getD t []) 2 [.int .i64 n])=bP (aKO g t n):=by
 have e:(bP g).getD t []=(g.getD t g0).c:=by have :=lG g t h;rwa [zI] at this
 rw [aKO,e,←aQE];rfl
def cB(g:List Gr)(t:Nat):List Gr×Int:=bif decide ((g.getD t g0).lim- (g.getD t g0).chg<1) then(g,3) else(aKO g t ((g.getD t g0).chg+1),0)
def iX(g:List Gr)(t:Nat):List Gr×Int:=bif decide ((g.getD t g0).chg<1) then(g,4) else(aKO g t ((g.getD t g0).chg-1),0)
theorem aZZ(g:List Gr)(t:Nat)(ht:t<g.length)(hg:vC g=true):aQ Tryz.prog 234 [] [.lst 3 false (bP g),.int .i64 (t:Int),.int .i64 1] (.int .i64 0) []:=by
 have hl:=(uC hg).2
 have k129:=aZF g false (by omega)
 rw [hg] at k129
 refine aF (ob0:= []) [] Tryz.func234 rfl rfl rfl rfl ?_
 refine dF k129 ?_
 rw [aO,show decide ((t:Int)<0)=false from decide_eq_false (by omega),show decide ((g.length:Int)≤(t:Int))=false from decide_eq_false (by omega)]
 refine Wk ?_
 try subst hk
 exact Lf
theorem bF5(g:List Gr)(t:Nat)(ht:t<g.length)(hg:vC g=true):aQ Tryz.prog 142 [] [.lst 3 false (bP g),.int .i64 (t:Int),.int .i64 1] (.tup [.lst 3 false (bP (cB g t).1),.int .i64 (cB g t).2]) []:=by
 have hl:=(uC hg).2
 have k234:=aZZ g t ht hg
 obtain⟨h1,h2⟩:=aG9 hg ht
 have hget:=lG g t ht
 have hgn:(bP g).getD t []=(g.getD t g0).c:=by rwa [zI] at hget
 have hput:=fun n=>aO1 g t n ht
 have k188:=aNR (bP g) false (by rw [aO];omega)
 generalize hk:cB g t=q
 unfold cB at hk
 rw [hgn] at hput
 generalize g.getD t g0=x at h1 h2 hget hgn hput hk
 refine aF (ob0:= []) [] Tryz.func142 rfl rfl rfl rfl ?_
 refine Wk ?_
 refine .inr ⟨fun _=>⟨[],_,_,_,k188,trivial,rfl,rfl,rfl,?_⟩,(by intro h;cases h)⟩
 refine dF k234 ?_
 first |refine aE (⟨rfl,by omega,by rw [aO];omega⟩) ?_ |refine aM (fun _=>⟨rfl,by omega,by rw [aO];omega⟩) ?_ |refine⟨fun _=>⟨rfl,by omega,by rw [aO];omega⟩,?_⟩
 rw [hget]
 refine Wk ?_
 first |refine aE (⟨rfl,by omega,by rw [aO];omega⟩) ?_ |refine aM (fun _=>⟨rfl,by omega,by rw [aO];omega⟩) ?_ |refine⟨fun _=>⟨rfl,by omega,by rw [aO];omega⟩,?_⟩
 rw [hget]
 refine Wk ?_
 rw [aY (n:=x.lim-x.chg) (by omega) (by omega)]
 refine aI (fun c1=>?_) (fun c1=>?_)<;> try simp only [zC,zA,zF,zD,zG] at c1
 ·rw [c1,cond_true] at hk
  subst hk
  refine Wk ?_
  refine⟨[],trivial,rfl,trivial,rfl,?_⟩
  try subst hk
  repeat' (first |exact trivial |rfl |exact .inl rfl |exact .inr rfl |exact id |exact(fun h=>Bool.noConfusion h)|refine And.intro ?_ ?_)
  ·omega
  ·exact fP rfl rfl
 rw [c1,cond_false] at hk
 subst hk
 refine Wk ?_
 rw [aO,show decide (0≤(t:Int)∧(t:Int)< (g.length:Int))=true from decide_eq_true ⟨by omega,by omega⟩]
 refine Wk ?_
 rw [show 0+(t:Int).toNat=t by omega,show decide (t< (bP g).length)=true from decide_eq_true (by rw [aO];exact ht),hgn]
 refine Wk ?_
 rw [aY (n:=x.chg+1) (by omega) (by omega)]
 refine Wk ?_
 rw [show decide (0≤(t:Int)∧(t:Int)< (g.length:Int))=true from decide_eq_true ⟨by omega,by omega⟩]
 refine Wk ?_
 rw [show 0+(t:Int).toNat=t by omega,show decide (t< (bP g).length)=true from decide_eq_true (by rw [aO];exact ht),hgn]
 refine Wk ?_
 refine⟨[],trivial,rfl,trivial,rfl,?_⟩
 try subst hk
 repeat' (first |exact trivial |rfl |exact .inl rfl |exact .inr rfl |exact id |exact(fun h=>Bool.noConfusion h)|refine And.intro ?_ ?_)
 ·rw [zE,aO];omega
 ·exact fP (hput _) (by rw [zE,aO])
theorem bFM(g:List Gr)(t:Nat)(ht:t<g.length)(hg:vC g=true):aQ Tryz.prog 246 [] [.lst 3 false (bP g),.int .i64 (t:Int),.int .i64 1] (.tup [.lst 3 false (bP (iX g t).1),.int .i64 (iX g t).2]) []:=by
 have hl:=(uC hg).2
 have k234:=aZZ g t ht hg
 obtain⟨h1,h2⟩:=aG9 hg ht
 have hget:=lG g t ht
 have hgn:(bP g).getD t []=(g.getD t g0).c:=by rwa [zI] at hget
 have hput:=fun n=>aO1 g t n ht
 have k188:=aNR (bP g) false (by rw [aO];omega)
 generalize hk:iX g t=q
 unfold iX at hk
 rw [hgn] at hput
 generalize g.getD t g0=x at h1 h2 hget hgn hput hk
 refine aF (ob0:= []) [] Tryz.func246 rfl rfl rfl rfl ?_
 refine Wk ?_
 refine .inr ⟨fun _=>⟨[],_,_,_,k188,trivial,rfl,rfl,rfl,?_⟩,(by intro h;cases h)⟩
 refine dF k234 ?_
 first |refine aE (⟨rfl,by omega,by rw [aO];omega⟩) ?_ |refine aM (fun _=>⟨rfl,by omega,by rw [aO];omega⟩) ?_ |refine⟨fun _=>⟨rfl,by omega,by rw [aO];omega⟩,?_⟩
 rw [hget]
 refine Wk ?_
 refine aI (fun c1=>?_) (fun c1=>?_)<;> try simp only [zC,zA,zF,zD,zG] at c1
 ·rw [c1,cond_true] at hk
  subst hk
  refine Wk ?_
  refine⟨[],trivial,rfl,trivial,rfl,?_⟩
  try subst hk
  repeat' (first |exact trivial |rfl |exact .inl rfl |exact .inr rfl |exact id |exact(fun h=>Bool.noConfusion h)|refine And.intro ?_ ?_)
  ·omega
  ·exact fP rfl rfl
 rw [c1,cond_false] at hk
 subst hk
 refine Wk ?_
 rw [aO,show decide (0≤(t:Int)∧(t:Int)< (g.length:Int))=true from decide_eq_true ⟨by omega,by omega⟩]
 refine Wk ?_
 rw [show 0+(t:Int).toNat=t by omega,show decide (t< (bP g).length)=true from decide_eq_true (by rw [aO];exact ht),hgn]
 refine Wk ?_
 rw [aY (n:=x.chg-1) (by omega) (by omega)]
 refine Wk ?_
 rw [show decide (0≤(t:Int)∧(t:Int)< (g.length:Int))=true from decide_eq_true ⟨by omega,by omega⟩]
 refine Wk ?_
 rw [show 0+(t:Int).toNat=t by omega,show decide (t< (bP g).length)=true from decide_eq_true (by rw [aO];exact ht),hgn]
 refine Wk ?_
 refine⟨[],trivial,rfl,trivial,rfl,?_⟩
 try subst hk
 repeat' (first |exact trivial |rfl |exact .inl rfl |exact .inr rfl |exact id |exact(fun h=>Bool.noConfusion h)|refine And.intro ?_ ?_)
 ·rw [zE,aO];omega
 ·exact fP (hput _) (by rw [zE,aO])
end Go.Proofs.YtmhapcbjjpadnaaGreat
set_option maxRecDepth 40000
namespace Go.Proofs.YtmhapcbjjpadnaaGreat
open Go Go.Sk Go.RowKit
structure Pg where
 b:ByteArray
 v:Nat
 d:Nat
def Pg.c(p:Pg):List V:= [.str p.b,.int .i64 (p.v:Int),.int .i64 (p.d:Int)]
structure dU(p:Pg):Prop where
 size:p.b.size=16
 v:p.v<4
 d:p.d<4
 sub:gP false p.d p.v=0
def z16:ByteArray:=⟨#[0,0,0,0,0,0,0,0,0,0,0,0,0,0,0,0]⟩
theorem aP1 {x y:Nat} (hx:x<8)(hy:y<8):fN .and .i64 (x:Int) (y:Int)=((x &&& y:Nat):Int):=by
 have key:∀a:Fin 8,∀b:Fin 8,fN .and .i64 (a.val:Int) (b.val:Int)=((a.val &&& b.val:Nat):Int):=by decide
 exact key ⟨x,hx⟩ ⟨y,hy⟩
theorem aNT(s:Nat)(hs:s<4):aQ Tryz.prog 253 [] [.int .i64 (s:Int)] (.bool true) []:=by
 refine aF (ob0:= []) [] Tryz.func253 rfl rfl rfl rfl ?_
 refine Wk ?_
 rw [show decide ((0:Int)≤(s:Int))=true from decide_eq_true (by omega),show decide ((s:Int)≤3)=true from decide_eq_true (by omega)]
 try subst hk
 exact Lf
theorem aTH(p:Pg)(h:dU p):aQ Tryz.prog 233 [] [.agg p.c] (.bool true) []:=by
 obtain⟨b,v,d⟩:=p
 obtain⟨h1,h2,h3,h4⟩:=h
 dsimp only at h1 h2 h3 h4
 have h4':=gH (x:=d) (y:=v) (by omega) (by omega)
 rw [h4] at h4'
 show aQ Tryz.prog 233 [] [.agg [.str b,.int .i64 (v:Int),.int .i64 (d:Int)]] (.bool true) []
 refine aF (ob0:= []) [] Tryz.func233 rfl rfl rfl rfl ?_
 refine Wk2 (aNT v h2) (aNT d h3) ?_
 rw [h4',show((b.size:Int)==16)=true from beq_iff_eq.2 (by omega)]
 try subst hk
 exact Lf
def gM(p:Pg)(s:Nat):Pg:=⟨p.b,p.v,p.d ||| (s &&& p.v)⟩
def bB8(p:Pg)(s:Nat):Pg:=⟨p.b,p.v,gP false p.d s⟩
theorem rD {p:Pg} (h:dU p) {s:Nat} (hs:s<4):dU (gM p s):=by
 have key:∀v d s:Fin 4,gP false d.val v.val=0→(d.val ||| (s.val &&& v.val))<4∧gP false (d.val ||| (s.val &&& v.val)) v.val=0:=by decide
 obtain⟨h5,h6⟩:=key ⟨p.v,h.v⟩ ⟨p.d,h.d⟩ ⟨s,hs⟩ h.sub
 exact⟨h.size,h.v,h5,h6⟩
theorem bF6:aQ Tryz.prog 144 [] [] (.agg (Pg.mk z16 0 0).c) []:=run_eq E1 40 (by kernel_rfl)
theorem bF7:aQ Tryz.prog 146 [] [] (.agg (Pg.mk z16 3 0).c) []:=run_eq E1 40 (by kernel_rfl)
end Go.Proofs.YtmhapcbjjpadnaaGreat
set_option maxRecDepth 40000
namespace Go.Proofs.YtmhapcbjjpadnaaGreat
open Go Go.Sk Go.RowKit
def aG0(off n a:Nat):Nat→Nat
 |0=>0
 |j+1=>aG0 off n a j+bif decide (off≤a+j)&&decide (a+j<off+n) then 1 else 0
def aJW(off n:Nat):Nat→Nat
 |0=>0
 |k+1=>bif decide (0<aG0 off n (k*8) 8) then aJW off n k ||| 2^k else aJW off n k
def aHV(off n:Nat):Nat→Nat
 |0=>0
 |k+1=>bif aG0 off n (k*8) 8==8 then aHV off n k ||| 2^k else aHV off n k
def tch(off n:Nat):Nat:=aJW off n 2
def cov(off n:Nat):Nat:=aHV off n 2
theorem pN(off n:Nat) {k:Nat} (hk:k≤2):aJW off n k<4∧aHV off n k<4:=by
 have key:∀x y:Bool,(bif y then(bif x then 0 ||| 2^0 else 0)||| 2^1 else(bif x then 0 ||| 2^0 else 0))<4:=by decide
 have key1:∀x:Bool,(bif x then 0 ||| 2^0 else 0)<4:=by decide
 match k,hk with
 |0,_=>exact⟨by show 0<4;decide,by show 0<4;decide⟩
 |1,_=>exact⟨key1 _,key1 _⟩
 |2,_=>exact⟨key _ _,key _ _⟩
theorem bAT {k:Nat} (hk:k<2):IntKind.i64.wrap (1*2^min (k:Int).toNat IntKind.i64.bits)=((2^k:Nat):Int):=by
 match k,hk with
 |0,_=>decide
 |1,_=>decide
theorem bBB {off n k:Nat} (h:off+n≤16)(hk:k<2):decide (0<aG0 off n (k*8) 8)=decide (max off (k*8)<min (off+n) ((k+1)*8)):=by
 have key:∀off n:Fin 17,∀k:Fin 2,decide (0<aG0 off.val n.val (k.val*8) 8)=decide (max off.val (k.val*8)<min (off.val+n.val) ((k.val+1)*8)):=by decide +kernel
 exact key ⟨off,by omega⟩ ⟨n,by omega⟩ ⟨k,hk⟩
theorem aW7 {off n k:Nat} (h:off+n≤16)(hk:k<2):(aG0 off n (k*8) 8==8)=(decide (off≤k*8)&&decide ((k+1)*8≤off+n)):=by
 have key:∀off n:Fin 17,∀k:Fin 2,(aG0 off.val n.val (k.val*8) 8==8)=(decide (off.val≤k.val*8)&&decide ((k.val+1)*8≤off.val+n.val)):=by decide +kernel
 exact key ⟨off,by omega⟩ ⟨n,by omega⟩ ⟨k,hk⟩
set_option maxRecDepth 20000 in
theorem bA4(off n:Nat)(h:off+n≤16):aQ Tryz.prog 261 [] [.int .i64 (off:Int),.int .i64 (n:Int)] (.int .i64 (tch off n:Int)) []:=by
 unfold tch
 refine aF (ob0:= []) [] Tryz.func261 rfl rfl rfl rfl ?_
 refine Wk ?_
 refine⟨Nat,fun k=>k≤2,fun k=>⟨[(0,⟨[],true,.int .i64 (off:Int)⟩),(1,⟨[],true,.int .i64 (n:Int)⟩),(5,⟨[],true,.int .i64 (aJW off n k:Int)⟩),(7,⟨[],true,.int .i64 (k:Int)⟩)],[],0⟩,fun k=>2-k,⟨0,Nat.zero_le _,?_⟩,fun k hI=>?_⟩
 ·exact Vw []
 dsimp only at hI⊢
 refine Wk ?_
 refine aI (fun b1=>?_) (fun b1=>?_)<;> try simp only [zC,zA,zF,zD,zG] at b1
 ·have b1:k<2:=by simp at b1;omega
  obtain⟨ht,hc⟩:=pN off n hI
  have e1:aJW off n (k+1)=bif decide (0<aG0 off n (k*8) 8) then aJW off n k ||| 2^k else aJW off n k:=rfl
  rw [bBB h b1] at e1
  have h2k:2^k<8:=by
   rcases(show k=0∨k=1 by omega) with rfl |rfl <;> decide
  refine Wk ?_
  rw [aY (n:=(k:Int)*8) (by omega) (by omega),aY (n:=(off:Int)+(n:Int)) (by omega) (by omega),aY (n:=(k:Int)+1) (by omega) (by omega),aY (n:=((k:Int)+1)*8) (by omega) (by omega),
   show decide (max (off:Int) ((k:Int)*8)<min ((off:Int)+(n:Int)) (((k:Int)+1)*8))=decide (max off (k*8)<min (off+n) ((k+1)*8)) from decide_eq_decide.2 (by omega)]
  cases h3:decide (max off (k*8)<min (off+n) ((k+1)*8)) with
  |true=>
   rw [h3,cond_true] at e1
   refine Wk ?_
   rw [bAT b1,fX (by omega) h2k,fC (by omega)]
   refine⟨k+1,by show k+1≤2;omega,?_,by show 2- (k+1)<2-k;omega⟩
   dsimp only
   rw [e1]
   exact Vw []
  |false=>
   rw [h3,cond_false] at e1
   refine Wk ?_
   rw [fC (by omega)]
   refine⟨k+1,by show k+1≤2;omega,?_,by show 2- (k+1)<2-k;omega⟩
   dsimp only
   rw [e1]
   exact Vw []
 have b1:k=2:=by simp at b1;omega
 subst b1
 refine Wk ?_
 try subst hk
 exact Lf
set_option maxRecDepth 20000 in
theorem bFO(off n:Nat)(h:off+n≤16):aQ Tryz.prog 262 [] [.int .i64 (off:Int),.int .i64 (n:Int)] (.int .i64 (cov off n:Int)) []:=by
 unfold cov
 refine aF (ob0:= []) [] Tryz.func262 rfl rfl rfl rfl ?_
 refine Wk ?_
 refine⟨Nat,fun k=>k≤2,fun k=>⟨[(0,⟨[],true,.int .i64 (off:Int)⟩),(1,⟨[],true,.int .i64 (n:Int)⟩),(5,⟨[],true,.int .i64 (aHV off n k:Int)⟩),(7,⟨[],true,.int .i64 (k:Int)⟩)],[],0⟩,fun k=>2-k,⟨0,Nat.zero_le _,?_⟩,fun k hI=>?_⟩
 ·exact Vw []
 dsimp only at hI⊢
 refine Wk ?_
 refine aI (fun b1=>?_) (fun b1=>?_)<;> try simp only [zC,zA,zF,zD,zG] at b1
 ·have b1:k<2:=by simp at b1;omega
  obtain⟨hc,ht⟩:=pN off n hI
  have e1:aHV off n (k+1)=bif aG0 off n (k*8) 8==8 then aHV off n k ||| 2^k else aHV off n k:=rfl
  rw [aW7 h b1] at e1
  have h2k:2^k<8:=by
   rcases(show k=0∨k=1 by omega) with rfl |rfl <;> decide
  refine Wk ?_
  rw [aY (n:=(k:Int)*8) (by omega) (by omega),aY (n:=(off:Int)+(n:Int)) (by omega) (by omega),aY (n:=(k:Int)+1) (by omega) (by omega),aY (n:=((k:Int)+1)*8) (by omega) (by omega),
   show(bif decide ((off:Int)≤(k:Int)*8) then decide (((k:Int)+1)*8≤(off:Int)+(n:Int)) else false)=(decide (off≤k*8)&&decide ((k+1)*8≤off+n)) by
    rw [show decide ((off:Int)≤(k:Int)*8)=decide (off≤k*8) from decide_eq_decide.2 (by omega),show decide (((k:Int)+1)*8≤(off:Int)+(n:Int))=decide ((k+1)*8≤off+n) from decide_eq_decide.2 (by omega)]
    cases decide (off≤k*8)<;> rfl]
  cases h3:(decide (off≤k*8)&&decide ((k+1)*8≤off+n)) with
  |true=>
   rw [h3,cond_true] at e1
   refine Wk ?_
   rw [bAT b1,fX (by omega) h2k,fC (by omega)]
   refine⟨k+1,by show k+1≤2;omega,?_,by show 2- (k+1)<2-k;omega⟩
   dsimp only
   rw [e1]
   exact Vw []
  |false=>
   rw [h3,cond_false] at e1
   refine Wk ?_
   rw [fC (by omega)]
   refine⟨k+1,by show k+1≤2;omega,?_,by show 2- (k+1)<2-k;omega⟩
   dsimp only
   rw [e1]
   exact Vw []
 have b1:k=2:=by simp at b1;omega
 subst b1
 refine Wk ?_
 try subst hk
 exact Lf
end Go.Proofs.YtmhapcbjjpadnaaGreat
set_option maxRecDepth 40000
namespace Go.Proofs.YtmhapcbjjpadnaaGreat
open Go Go.Sk Go.RowKit
def mH(p:Pg)(off n:Nat)(w:Bool):Nat:=gP false (bif w then gP false (tch off n) (cov off n) else tch off n) p.v
theorem aT8(p:Pg)(h:dU p)(off n:Nat)(hr:off+n≤16)(w:Bool):aQ Tryz.prog 163 [] [.agg p.c,.int .i64 (off:Int),.int .i64 (n:Int),.bool w] (.tup [.int .i64 (mH p off n w:Int),.int .i64 0]) []:=by
 have k233:=aTH p h
 have k261:=bA4 off n hr
 have k262:=bFO off n hr
 obtain⟨h5,h6⟩:=pN off n (Nat.le_refl 2)
 have h5:tch off n<4:=h5
 have h6:cov off n<4:=h6
 obtain⟨b,v,d⟩:=p
 obtain⟨h1,h2,h3,h4⟩:=h
 dsimp only at h1 h2 h3 h4
 generalize hk:mH ⟨b,v,d⟩ off n w=q
 unfold mH at hk
 dsimp only at hk
 generalize tch off n=x at *
 generalize cov off n=y at *
 have h7:gP false x y<8:=aRK (by omega) (by omega)
 show aQ Tryz.prog 163 [] [.agg [.str b,.int .i64 (v:Int),.int .i64 (d:Int)],.int .i64 (off:Int),.int .i64 (n:Int),.bool w] _ []
 refine aF (ob0:= []) [] Tryz.func163 rfl rfl rfl rfl ?_
 refine dF k233 ?_
 rw [aY (n:=16- (off:Int)) (by omega) (by omega),show decide ((off:Int)<0)=false from decide_eq_false (by omega),show decide ((n:Int)<0)=false from decide_eq_false (by omega),show decide ((16:Int)< (off:Int))=false from decide_eq_false (by omega),show decide (16- (off:Int)< (n:Int))=false from decide_eq_false (by omega)]
 refine dF k261 ?_
 cases w with
 |true=>
  refine dF k262 ?_
  rw [gH (x:=x) (y:=y) (by omega) (by omega)]
  rw [gH h7 (by omega)]
  subst hk
  try subst hk
  exact Lf
 |false=>
  refine Wk ?_
  rw [gH (x:=x) (y:=v) (by omega) (by omega)]
  subst hk
  try subst hk
  exact Lf
theorem bG4(p:Pg)(h:dU p)(s:Nat)(hs:s<4):aQ Tryz.prog 327 [] [.agg p.c,.int .i64 (s:Int)] (.int .i64 0) []:=by
 have k233:=aTH p h
 have k253:=aNT s hs
 obtain⟨b,v,d⟩:=p
 show aQ Tryz.prog 327 [] [.agg [.str b,.int .i64 (v:Int),.int .i64 (d:Int)],.int .i64 (s:Int)] _ []
 refine aF (ob0:= []) [] Tryz.func327 rfl rfl rfl rfl ?_
 refine Wk2 k233 k253 ?_
 try subst hk
 exact Lf
theorem bFQ(p:Pg)(h:dU p)(s:Nat)(hs:s<4):aQ Tryz.prog 268 [] [.agg p.c,.int .i64 (s:Int)] (.tup [.agg (gM p s).c,.int .i64 0]) []:=by
 have k327:=bG4 p h s hs
 obtain⟨b,v,d⟩:=p
 obtain⟨h1,h2,h3,h4⟩:=h
 dsimp only at h1 h2 h3 h4
 show aQ Tryz.prog 268 [] [.agg [.str b,.int .i64 (v:Int),.int .i64 (d:Int)],.int .i64 (s:Int)] (.tup [.agg [.str b,.int .i64 (v:Int),.int .i64 ((d ||| (s &&& v):Nat):Int)],.int .i64 0]) []
 refine aF (ob0:= []) [] Tryz.func268 rfl rfl rfl rfl ?_
 refine dF k327 ?_
 rw [aP1 (x:=s) (y:=v) (by omega) (by omega),fX (x:=d) (y:=s &&& v) (by omega) (by have :=Nat.and_le_right (n:=s) (m:=v);omega)]
 try subst hk
 exact Lf
theorem bA5(p:Pg)(h:dU p)(off n:Nat)(hr:off+n≤16)(w:Bool)(hn:mH p off n w=0):aQ Tryz.prog 265 [] [.agg p.c,.int .i64 (off:Int),.int .i64 (n:Int),.bool w] (.int .i64 0) []:=by
 have k163:=aT8 p h off n hr w
 rw [hn] at k163
 obtain⟨b,v,d⟩:=p
 show aQ Tryz.prog 265 [] [.agg [.str b,.int .i64 (v:Int),.int .i64 (d:Int)],.int .i64 (off:Int),.int .i64 (n:Int),.bool w] _ []
 refine aF (ob0:= []) [] Tryz.func265 rfl rfl rfl rfl ?_
 refine dF k163 ?_
 try subst hk
 exact Lf
end Go.Proofs.YtmhapcbjjpadnaaGreat
set_option maxRecDepth 40000
namespace Go.Proofs.YtmhapcbjjpadnaaGreat
open Go Go.Sk Go.RowKit
def rH(b:ByteArray)(off:Nat)(s:ByteArray):ByteArray:=b.extract 0 off++s++b.extract (off+s.size) b.size
def dX(p:Pg)(off:Nat)(s:ByteArray):Pg:=⟨rH p.b off s,p.v ||| tch off s.size,p.d ||| tch off s.size⟩
theorem cA(b:ByteArray)(i j:Nat):(b.extract i j).size=min j b.size-i:=by simp [ByteArray.size_extract]
theorem fI(a b:ByteArray):(a++b).size=a.size+b.size:=ByteArray.size_append
theorem bFP(p:Pg)(h:dU p)(off:Nat)(s:ByteArray)(hr:off+s.size≤16)(hn:mH p off s.size true=0):aQ Tryz.prog 266 [] [.agg p.c,.int .i64 (off:Int),.str s] (.tup [.agg (dX p off s).c,.int .i64 0]) []:=by
 have k265:=bA5 p h off s.size hr true hn
 have k261:=bA4 off s.size hr
 obtain⟨h5,h6⟩:=pN off s.size (Nat.le_refl 2)
 have h5:tch off s.size<4:=h5
 obtain⟨b,v,d⟩:=p
 obtain⟨h1,h2,h3,h4⟩:=h
 dsimp only at h1 h2 h3 h4
 show aQ Tryz.prog 266 [] [.agg [.str b,.int .i64 (v:Int),.int .i64 (d:Int)],.int .i64 (off:Int),.str s] (.tup [.agg [.str (rH b off s),.int .i64 ((v ||| tch off s.size:Nat):Int),.int .i64 ((d ||| tch off s.size:Nat):Int)],.int .i64 0]) []
 generalize tch off s.size=x at *
 refine aF (ob0:= []) [] Tryz.func266 rfl rfl rfl rfl ?_
 refine Wk2 k265 k261 ?_
 first |refine aE (⟨by omega,by omega,by omega⟩) ?_ |refine aM (fun _=>⟨by omega,by omega,by omega⟩) ?_ |refine⟨fun _=>⟨by omega,by omega,by omega⟩,?_⟩
 refine Wk ?_
 first |refine aE (by rw [cA];omega) ?_ |refine aM (fun _=>by rw [cA];omega) ?_ |refine⟨fun _=>by rw [cA];omega,?_⟩
 refine Wk ?_
 rw [aY (n:=(off:Int)+(s.size:Int)) (by omega) (by omega),show(off:Int)+(s.size:Int)=((off+s.size:Nat):Int) by omega]
 refine Wk ?_
 first |refine aE (⟨by omega,by omega,by omega⟩) ?_ |refine aM (fun _=>⟨by omega,by omega,by omega⟩) ?_ |refine⟨fun _=>⟨by omega,by omega,by omega⟩,?_⟩
 refine Wk ?_
 first |refine aE (by rw [fI,cA,cA];omega) ?_ |refine aM (fun _=>by rw [fI,cA,cA];omega) ?_ |refine⟨fun _=>by rw [fI,cA,cA];omega,?_⟩
 refine Wk ?_
 rw [fX (x:=v) (by omega) (by omega)]
 refine Wk ?_
 rw [fX (x:=d) (by omega) (by omega)]
 refine Wk ?_
 try subst hk
 exact Lf
end Go.Proofs.YtmhapcbjjpadnaaGreat
set_option maxRecDepth 40000
namespace Go.Proofs.YtmhapcbjjpadnaaGreat
open Go Go.Sk Go.RowKit
structure Df where
 dev:Int
 slot:Int
 E:cI
 size:Nat
 blocks:Nat
 ec:Int
 ee:Int
def Df.c(f:Df):List V:= [.int .i64 f.dev,.int .i64 f.slot]++can f.E++ [.int .i64 (f.size:Int),.int .i64 (f.blocks:Int),.int .i64 f.ec,.int .i64 f.ee,.int .i64 0,.int .i64 0,.int .i64 0,.int .i64 0,.int .i64 0]
structure Us where
 file:Nat
 page:Nat
 p:Pg
 ten:Nat
 holds:Nat
 rd:Nat
 wr:Nat
def Us.c(u:Us):List V:= [.int .i64 (u.file:Int),.int .i64 (u.page:Int),.str u.p.b,.int .i64 (u.p.v:Int),.int .i64 (u.p.d:Int),.int .i64 (u.ten:Int),.int .i64 (u.holds:Int),.int .i64 (u.rd:Int),.int .i64 (u.wr:Int)]
def frC(o:Option Us):List V:=match o with
 |none=>fre.c
 |some u=>u.c
structure Dc where
 fl:List Df
 fr:List (Option Us)
 zo:List Zn
 gr:List Gr
 ls:List Ls
 ck:List Int
 pt:List Pt
def bG(L:List Df):List (List V):=L.map Df.c
def bE(L:List (Option Us)):List (List V):=L.map frC
def Dc.c(c:Dc):List V:= [.lst 15 false (bG c.fl),.lst 9 false (bE c.fr),.lst 6 false (aW c.zo),.lst 3 false (bP c.gr),.lst 3 false (cN c.ls),.lst 1 false (aJ c.ck),.lst 5 false (bQ c.pt)]
theorem bV(L:List Df):(bG L).length=L.length:=List.length_map _
theorem eV(L:List (Option Us)):(bE L).length=L.length:=List.length_map _
def Dc.o(c:Dc):List V:= [.sl 0 0 c.fl.length,.sl 1 0 c.fr.length,.lst 6 false (aW c.zo),.sl 2 0 c.gr.length,.sl 3 0 c.ls.length,.sl 4 0 c.ck.length,.lst 5 false (bQ c.pt)]
def Dc.ob(c:Dc):List Sk.Obj:= [.row 15 (bG c.fl),.row 9 (bE c.fr),.row 3 (bP c.gr),.row 3 (cN c.ls),.row 1 (aJ c.ck)]
structure SmD(c:Dc):Prop where
 fl:c.fl.length≤8
 fr:c.fr.length≤64
 gr:c.gr.length≤4
 ls:c.ls.length≤4
 ck:c.ck.length≤4
set_option maxRecDepth 20000 in
theorem bJJ(c:Dc)(h:SmD c):aQ Tryz.prog 85 [] [.agg c.c] (.agg c.o) c.ob:=by
 obtain⟨fl,fr,zo,gr,ls,ck,pt⟩:=c
 obtain⟨h1,h2,h3,h4,h5⟩:=h
 dsimp only at h1 h2 h3 h4 h5
 show aQ Tryz.prog 85 [] [.agg [.lst 15 false (bG fl),.lst 9 false (bE fr),.lst 6 false (aW zo),.lst 3 false (bP gr),.lst 3 false (cN ls),.lst 1 false (aJ ck),.lst 5 false (bQ pt)]]
  (.agg [.sl 0 0 fl.length,.sl 1 0 fr.length,.lst 6 false (aW zo),.sl 2 0 gr.length,.sl 3 0 ls.length,.sl 4 0 ck.length,.lst 5 false (bQ pt)]) [.row 15 (bG fl),.row 9 (bE fr),.row 3 (bP gr),.row 3 (cN ls),.row 1 (aJ ck)]
 refine aF (ob0:= []) [] Tryz.func85 rfl rfl rfl rfl ?_
 refine Wk ?_
 refine bZ (by rw [bV];omega) (by rw [bV];omega) ?_
 refine Wk ?_
 refine bZ (by rw [eV];omega) (by rw [eV];omega) ?_
 refine Wk ?_
 refine bZ (by rw [aO];omega) (by rw [aO];omega) ?_
 refine Wk ?_
 refine bZ (by rw [iF];omega) (by rw [iF];omega) ?_
 refine Wk ?_
 refine bZ (by rw [aB];omega) (by rw [aB];omega) ?_
 refine Wk ?_
 rw [bV,eV,aO,iF,aB]
 try subst hk
 exact⟨[some 2,some 3,some 4,some 5,some 6],Cl,rfl,Cl,rfl,Cl⟩
theorem bHD {k:Nat} (hk:k<8):IntKind.i64.wrap (1*2^min (k:Int).toNat IntKind.i64.bits)=((2^k:Nat):Int):=by
 have key:∀k:Fin 8,IntKind.i64.wrap (1*2^min (k.val:Int).toNat IntKind.i64.bits)=((2^k.val:Nat):Int):=by decide
 exact key ⟨k,hk⟩
theorem aRA {x k:Nat} (hx:x<256)(hk:k<8):fN .and .i64 (x:Int) ((2^k:Nat):Int)=((x &&& 2^k:Nat):Int):=by
 have key:∀x:Fin 256,∀k:Fin 8,fN .and .i64 (x.val:Int) ((2^k.val:Nat):Int)=((x.val &&& 2^k.val:Nat):Int):=by decide +kernel
 exact key ⟨x,hx⟩ ⟨k,hk⟩
def eU(blocks page:Nat):Bool:=((blocks &&& 2^page:Nat):Int)==0
theorem aZH(f:Df)(hE:bK f.E)(page:Nat)(hp:page<8)(hb:f.blocks<256):aQ Tryz.prog 145 [] [.agg f.c,.int .i64 (page:Int)] (.bool (eU f.blocks page)) []:=by
 obtain⟨k0,k1,k2,k3,e⟩:=bC hE
 obtain⟨dev,slot,E,size,blocks,ec,ee⟩:=f
 dsimp only at hb e
 unfold Df.c
 dsimp only
 rw [e]
 refine aF (ob0:= []) [] Tryz.func145 rfl rfl rfl rfl ?_
 refine Wk ?_
 first |refine aE (by omega) ?_ |refine aM (fun _=>by omega) ?_ |refine⟨fun _=>by omega,?_⟩
 refine Wk ?_
 rw [bHD hp,aRA hb hp]
 try subst hk
 exact Lf
end Go.Proofs.YtmhapcbjjpadnaaGreat
set_option maxRecDepth 40000
namespace Go.Proofs.YtmhapcbjjpadnaaGreat
open Go Go.Sk Go.RowKit
def aK:Df:=⟨0,0,fun _=>(0,0),0,0,0,0⟩
theorem iE(L:List Df)(k:Nat)(h:k<L.length):(bG L).getD k []=(L.getD k aK).c:=by
 simp [bG,zH,h]
theorem jM(L:List (Option Us))(k:Nat)(h:k<L.length):(bE L).getD k []=frC (L.getD k none):=by
 simp [bE,zH,h]
def mE(E:cI)(u:Us):cI:=iQ (iQ E u.page (u.p.d != 0) 1) u.page (u.wr != 0) 2
theorem iR(E:cI)(i m:Nat)(on:Bool)(j:Nat):(iQ E i on m j).1=(E j).1:=by
 unfold iQ
 by_cases e:j=i
 ·subst e;rw [cR]
 ·rw [cW e]
theorem tJ.mrk {E:cI} (h:tJ E) {i m:Nat} {on:Bool} :tJ (iQ E i on m):=fun j hj=>by rw [iR];exact h j hj
theorem aZ7 {E:cI} (hE:bK E)(hs:tJ E) {u:Us} (hv:0< (E u.page).1):bK (mE E u)∧tJ (mE E u):=by
 have h1:=hE.mrk (i:=u.page) (m:=1) (on:=(u.p.d != 0)) (by decide) hv
 exact⟨h1.mrk (i:=u.page) (m:=2) (on:=(u.wr != 0)) (by decide) (by rw [iR];exact hv),hs.mrk.mrk⟩
def dG(f:Df)(E:cI):Df:=⟨f.dev,f.slot,E,f.size,f.blocks,f.ec,f.ee⟩
theorem rS(L:List Df)(k:Nat)(E:cI)(h:k<L.length)(hE:bK (L.getD k aK).E)(hE':bK E):(bG L).set k (aR 15 ((bG L).getD k []) 2 (can E))=bG (L.set k (dG (L.getD k aK) E)):=by
 rw [iE L k h,bG,bG,List.map_set]
 obtain⟨k0,k1,k2,k3,e⟩:=bC hE
 obtain⟨q0,q1,q2,q3,e'⟩:=bC hE'
 congr 1
 unfold Df.c dG
 dsimp only
 rw [e,e']
 rfl
structure tM(c:Dc)(n:Nat)(u:Us):Prop where
 at_:n<c.fr.length
 get:c.fr.getD n none=some u
 file:u.file<c.fl.length
 page:u.page<16
 E:bK (c.fl.getD u.file aK).E
 sup:tJ (c.fl.getD u.file aK).E
 val:0< ((c.fl.getD u.file aK).E u.page).1
 pg:dU u.p
 ten:u.ten<c.ls.length
 rd:u.rd<4
 wr:u.wr<4
def Dc.mark(c:Dc)(u:Us):Dc:=⟨c.fl.set u.file (dG (c.fl.getD u.file aK) (mE (c.fl.getD u.file aK).E u)),c.fr,c.zo,c.gr,c.ls,c.ck,c.pt⟩
set_option maxRecDepth 20000 in
set_option maxHeartbeats 1000000 in
theorem bFN(c:Dc)(n:Nat)(u:Us)(hc:SmD c)(h:tM c n u):aQ Tryz.prog 252 c.ob [.agg c.o,.int .i64 ((n+1:Nat):Int)] (.agg (c.mark u).o) (c.mark u).ob:=by
 obtain⟨h1,h2,h3,h4,h5,h6,h7,h8,h9,h10,h11⟩:=h
 obtain⟨fl,fr,zo,gr,ls,ck,pt⟩:=c
 obtain⟨s1,s2,s3,s4,s5⟩:=hc
 dsimp only at h1 h2 h3 h5 h6 h7 h9 s1 s2 s3 s4 s5
 have hgu:=jM fr n h1
 rw [h2] at hgu
 have hgu:(bE fr).getD n []=u.c:=hgu
 have hgf:=iE fl u.file h3
 obtain⟨m1,m2⟩:=aZ7 h5 h6 h7
 have hput:=rS fl u.file _ h3 h5 m1
 rw [hgf] at hput
 unfold Dc.mark
 dsimp only
 generalize hff:fl.getD u.file aK=f at *
 show aQ Tryz.prog 252 [.row 15 (bG fl),.row 9 (bE fr),.row 3 (bP gr),.row 3 (cN ls),.row 1 (aJ ck)] [.agg [.sl 0 0 fl.length,.sl 1 0 fr.length,.lst 6 false (aW zo),.sl 2 0 gr.length,.sl 3 0 ls.length,.sl 4 0 ck.length,.lst 5 false (bQ pt)],.int .i64 ((n+1:Nat):Int)]
  (.agg [.sl 0 0 (fl.set u.file (dG f (mE f.E u))).length,.sl 1 0 fr.length,.lst 6 false (aW zo),.sl 2 0 gr.length,.sl 3 0 ls.length,.sl 4 0 ck.length,.lst 5 false (bQ pt)]) [.row 15 (bG (fl.set u.file (dG f (mE f.E u)))),.row 9 (bE fr),.row 3 (bP gr),.row 3 (cN ls),.row 1 (aJ ck)]
 rw [zE]
 generalize bG (fl.set u.file (dG f (mE f.E u)))=R at hput⊢
 obtain⟨file,page,⟨b,v,d⟩,ten,holds,rd,wr⟩:=u
 have hgu:(bE fr).getD n []=[.int .i64 (file:Int),.int .i64 (page:Int),.str b,.int .i64 (v:Int),.int .i64 (d:Int),.int .i64 (ten:Int),.int .i64 (holds:Int),.int .i64 (rd:Int),.int .i64 (wr:Int)]:=hgu
 dsimp only [mE] at h3 h4 h7 h8 h10 h11 hput hgf m1 m2
 obtain⟨k0,k1,k2,k3,e⟩:=bC h5
 have hfc:f.c=[.int .i64 f.dev,.int .i64 f.slot,.int .i64 (hgt f.E:Int),.lst k0 k1 k2,.int .i64 k3,.int .i64 (lS f.E 0 (4^hgt f.E):Nat),.int .i64 (f.size:Int),.int .i64 (f.blocks:Int),.int .i64 f.ec,.int .i64 f.ee,.int .i64 0,.int .i64 0,.int .i64 0,.int .i64 0,.int .i64 0]:=by unfold Df.c;rw [e];rfl
 rw [hfc] at hgf hput
 have hd4:=h8.d
 dsimp only at hd4
 refine aF (ob0:= [.row 15 (bG fl),.row 9 (bE fr),.row 3 (bP gr),.row 3 (cN ls),.row 1 (aJ ck)]) [] Tryz.func252 rfl rfl rfl rfl ?_
 refine Wk ?_
 rw [aY (n:=((n+1:Nat):Int)-1) (by omega) (by omega),show((n+1:Nat):Int)-1=(n:Int) by omega,show decide (0≤(n:Int)∧(n:Int)< (fr.length:Int))=true from decide_eq_true ⟨by omega,by omega⟩]
 refine Wk ?_
 rw [show 0+(n:Int).toNat=n by omega,show decide (n< (bE fr).length)=true from decide_eq_true (by rw [eV];exact h1),hgu]
 refine Wk ?_
 rw [show decide (0≤(file:Int)∧(file:Int)< (fl.length:Int))=true from decide_eq_true ⟨by omega,by omega⟩]
 refine Wk ?_
 rw [show 0+(file:Int).toNat=file by omega,show decide (file< (bG fl).length)=true from decide_eq_true (by rw [bV];exact h3),hgf]
 refine Wk ?_
 have hdd:(((d:Nat):Int) != 0)=(d != 0):=by
  cases hd:(d != 0) with
  |true=>rw [bne_iff_ne] at hd⊢;omega
  |false=>rw [bne_eq_false_iff_eq] at hd⊢;omega
 have hww:(((wr:Nat):Int) != 0)=(wr != 0):=by
  cases hd:(wr != 0) with
  |true=>rw [bne_iff_ne] at hd⊢;omega
  |false=>rw [bne_eq_false_iff_eq] at hd⊢;omega
 rw [hdd]
 cases hd:(d != 0) with
 |true=>
  rw [hd] at hput m1
  have n1:=h5.mrk (i:=page) (m:=1) (on:=true) (by decide) h7
  have n2:=h6.mrk (i:=page) (m:=1) (on:=true)
  have j1:=aTP h5 h6 page h4 1 (.inl rfl) h7
  obtain⟨p0,p1,p2,p3,e1⟩:=bC n1
  rw [e,e1] at j1
  refine dF j1 ?_
  rw [hww]
  cases hw:(wr != 0) with
  |true=>
   have j2:=aTP n1 n2 page h4 2 (.inr (.inl rfl)) (by rw [iR];exact h7)
   rw [hw] at hput m1
   obtain⟨r0,r1,r2,r3,e2⟩:=bC m1
   rw [e1,e2] at j2
   rw [e2] at hput
   refine dF j2 ?_
   rw [show decide (0≤(file:Int)∧(file:Int)< (fl.length:Int))=true from decide_eq_true ⟨by omega,by omega⟩]
   refine Wk ?_
   rw [show 0+(file:Int).toNat=file by omega,show decide (file< (bG fl).length)=true from decide_eq_true (by rw [bV];exact h3),hgf]
   refine Wk ?_
   try subst hk
   refine⟨[some 0,some 1,some 2,some 3,some 4],?_,rfl,?_,rfl,?_⟩
   all_goals repeat' (first |exact trivial |rfl |exact .inl rfl |exact .inr rfl |exact id |exact(fun h=>Bool.noConfusion h)|refine And.intro ?_ ?_)
   exact hput
  |false=>
   have j2:=aTQ n1 n2 page h4 2 (.inr (.inl rfl)) (by rw [iR];exact h7)
   rw [hw] at hput m1
   obtain⟨r0,r1,r2,r3,e2⟩:=bC m1
   rw [e1,e2] at j2
   rw [e2] at hput
   refine dF j2 ?_
   rw [show decide (0≤(file:Int)∧(file:Int)< (fl.length:Int))=true from decide_eq_true ⟨by omega,by omega⟩]
   refine Wk ?_
   rw [show 0+(file:Int).toNat=file by omega,show decide (file< (bG fl).length)=true from decide_eq_true (by rw [bV];exact h3),hgf]
   refine Wk ?_
   try subst hk
   refine⟨[some 0,some 1,some 2,some 3,some 4],?_,rfl,?_,rfl,?_⟩
   all_goals repeat' (first |exact trivial |rfl |exact .inl rfl |exact .inr rfl |exact id |exact(fun h=>Bool.noConfusion h)|refine And.intro ?_ ?_)
   exact hput
 |false=>
  rw [hd] at hput m1
  have n1:=h5.mrk (i:=page) (m:=1) (on:=false) (by decide) h7
  have n2:=h6.mrk (i:=page) (m:=1) (on:=false)
  have j1:=aTQ h5 h6 page h4 1 (.inl rfl) h7
  obtain⟨p0,p1,p2,p3,e1⟩:=bC n1
  rw [e,e1] at j1
  refine dF j1 ?_
  rw [hww]
  cases hw:(wr != 0) with
  |true=>
   have j2:=aTP n1 n2 page h4 2 (.inr (.inl rfl)) (by rw [iR];exact h7)
   rw [hw] at hput m1
   obtain⟨r0,r1,r2,r3,e2⟩:=bC m1
   rw [e1,e2] at j2
   rw [e2] at hput
   refine dF j2 ?_
   rw [show decide (0≤(file:Int)∧(file:Int)< (fl.length:Int))=true from decide_eq_true ⟨by omega,by omega⟩]
   refine Wk ?_
   rw [show 0+(file:Int).toNat=file by omega,show decide (file< (bG fl).length)=true from decide_eq_true (by rw [bV];exact h3),hgf]
   refine Wk ?_
   try subst hk
   refine⟨[some 0,some 1,some 2,some 3,some 4],?_,rfl,?_,rfl,?_⟩
   all_goals repeat' (first |exact trivial |rfl |exact .inl rfl |exact .inr rfl |exact id |exact(fun h=>Bool.noConfusion h)|refine And.intro ?_ ?_)
   exact hput
  |false=>
   have j2:=aTQ n1 n2 page h4 2 (.inr (.inl rfl)) (by rw [iR];exact h7)
   rw [hw] at hput m1
   obtain⟨r0,r1,r2,r3,e2⟩:=bC m1
   rw [e1,e2] at j2
   rw [e2] at hput
   refine dF j2 ?_
   rw [show decide (0≤(file:Int)∧(file:Int)< (fl.length:Int))=true from decide_eq_true ⟨by omega,by omega⟩]
   refine Wk ?_
   rw [show 0+(file:Int).toNat=file by omega,show decide (file< (bG fl).length)=true from decide_eq_true (by rw [bV];exact h3),hgf]
   refine Wk ?_
   try subst hk
   refine⟨[some 0,some 1,some 2,some 3,some 4],?_,rfl,?_,rfl,?_⟩
   all_goals repeat' (first |exact trivial |rfl |exact .inl rfl |exact .inr rfl |exact id |exact(fun h=>Bool.noConfusion h)|refine And.intro ?_ ?_)
   exact hput
def Dc.setU(c:Dc)(n:Nat)(u:Us):Dc:=⟨c.fl,c.fr.set n (some u),c.zo,c.gr,c.ls,c.ck,c.pt⟩
def Dc.put(c:Dc)(n:Nat)(u:Us):Dc:=(c.setU n u).mark u
end Go.Proofs.YtmhapcbjjpadnaaGreat
