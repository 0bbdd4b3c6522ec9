/- Caches. -/
import Derived.Test.YtmhapcbjjpadnaaGreatG8b
import Derived.Test.YtmhapcbjjpadnaaGreatG7b
import Derived.Test.YtmhapcbjjpadnaaGreatG9b
import Derived.Test.YtmhapcbjjpadnaaGreatGBb
set_option linter.all false
set_option maxHeartbeats 1000000
set_option maxRecDepth 40000
open Bool renaming cond_false_right→zA,cond_true_left→zC,not_eq_false'→zD,not_eq_true'→zE,not_not→zG
open Int renaming toNat_natCast→zI
open List renaming length_set→zF,getD_eq_getElem?_getD→zH
open Nat renaming le_refl→zJ,zero_le→zK
namespace Go.Proofs.YtmhapcbjjpadnaaGreat
open Go Go.Sk Go.RowKit
def kG(s:Int):Int×Bool:=bif decide (0<=s)||decide (s< -1000001) then(0,false) else(-s-1,true)
def aDS(c s:Int):Int×Int:=bif (bif !(kG s).2 then true else decide (c<=(kG s).1)) then(0,1) else(c- (kG s).1,0)
def aXD(c s n:Int):Bool:=bif (aDS c s).2==0 then decide ((aDS c s).1<=n) else false
theorem aSD {s:Int} (h:(kG s).2=true):0<=(kG s).1/\(kG s).1<=1000000:=by
 revert h
 unfold kG
 cases h:(decide (0<=s)||decide (s< -1000001)) with
 |true=>intro h;cases h
 |false=>
  intro _
  simp only [cond_false]
  by_cases h1:0<=s
  ·rw [decide_eq_true h1] at h;cases h
  ·rw [decide_eq_false h1,Bool.false_or,decide_eq_false_iff_not] at h
   omega
theorem bMP(c:Int)(h0:0<=c)(h1:c<=1000000):aM Tryz.prog 71 [] [.int .i64 c] (.tup [.int .i64 (0- (c+1)),.int .i64 0]) []:=by
 refine aF (ob0:= []) [] Tryz.func71 rfl rfl rfl rfl ?_
 refine Wk ?_
 rw [show decide (c<0)=false from decide_eq_false (by omega),show decide ((1000000:Int)<c)=false from decide_eq_false (by omega)]
 refine Wk ?_
 rw [aR (n:=c+1) (by omega) (by omega),aR (n:=0- (c+1)) (by omega) (by omega)]
 try subst hk
 exact Lf
theorem bII(s:Int):aM Tryz.prog 280 [] [.int .i64 s] (.tup [.int .i64 (kG s).1,.bool (kG s).2]) []:=by
 generalize hk:kG s=q
 unfold kG at hk
 refine aF (ob0:= []) [] Tryz.func280 rfl rfl rfl rfl ?_
 refine Wk ?_
 refine aC (λc1=>?_) (λc1=>?_)<;> try simp only [zC,zA,zE,zD,zG] at c1
 ·rw [c1,cond_true] at hk
  subst hk
  refine Wk ?_
  try subst hk
  exact Lf
 have c2:0-s-1= -s-1/\-(1000001:Int)<=s/\s<=0:=by
  by_cases h1:0<=s
  ·rw [decide_eq_true h1] at c1;cases c1
  ·rw [decide_eq_false h1,Bool.false_or,decide_eq_false_iff_not] at c1;omega
 obtain⟨c2,c3,c4⟩:=c2
 rw [c1,cond_false] at hk
 subst hk
 refine Wk ?_
 rw [aR (n:=0-s) (by omega) (by omega),aR (n:=0-s-1) (by omega) (by omega),c2]
 try subst hk
 exact Lf
theorem bHW(c s:Int)(h0:0<=c)(h1:c<=1000000):aM Tryz.prog 179 [] [.int .i64 c,.int .i64 s] (.tup [.int .i64 (aDS c s).1,.int .i64 (aDS c s).2]) []:=by
 generalize hk:aDS c s=q
 unfold aDS at hk
 have k280:=bII s
 have hb:=aSD (s:=s)
 generalize(kG s).1=t at k280 hb hk
 generalize(kG s).2=o at k280 hb hk
 generalize hw:(bif !o then true else decide (c<=t))=w at hk
 refine aF (ob0:= []) [] Tryz.func179 rfl rfl rfl rfl ?_
 refine Wk ?_
 rw [show decide (c<0)=false from decide_eq_false (by omega),show decide ((1000000:Int)<c)=false from decide_eq_false (by omega)]
 refine cC k280 ?_
 rw [show(bif !o then true else decide (c<=t))=w from hw]
 cases w with
 |true=>
  rw [cond_true] at hk
  subst hk
  refine Wk ?_
  try subst hk
  exact Lf
 |false=>
  rw [cond_false] at hk
  subst hk
  have h3:=hb (by cases o;cases hw;rfl)
  refine Wk ?_
  rw [aR (n:=c-t) (by omega) (by omega)]
  try subst hk
  exact Lf
theorem bMQ(c s n:Int)(h0:0<=c)(h1:c<=1000000):aM Tryz.prog 72 [] [.int .i64 c,.int .i64 s,.int .i64 n] (.bool (aXD c s n)) []:=by
 have k:=bHW c s h0 h1
 unfold aXD
 generalize aDS c s=q at k⊢
 refine aF (ob0:= []) [] Tryz.func72 rfl rfl rfl rfl ?_
 refine cC k ?_
 try subst hk
 exact Lf
end Go.Proofs.YtmhapcbjjpadnaaGreat
namespace Go.Proofs.YtmhapcbjjpadnaaGreat
open Go Go.Sk Go.RowKit
def aJO(g:List Gr)(t:Nat)(n:Int):List Gr:=g.set t ⟨(g.getD t g0).lim,(g.getD t g0).pro,n⟩
theorem rP(g:List Gr)(t:Nat)(n:Int):(aJO g t n).length=g.length:=zF ..
theorem aAR {g:List Gr} (h:rI g=true) {t:Nat} (ht:t<g.length):(1<=(g.getD t g0).lim/\(g.getD t g0).lim<=64)/\0<=(g.getD t g0).chg/\(g.getD t g0).chg<=64:=by
 simp only [rI,Bool.and_eq_true] at h
 have hb:=kY h.1 ht
 unfold oR at hb
 simp only [aJI,Bool.or_eq_false_iff,decide_eq_false_iff_not] at hb
 omega
theorem aIC(g:List Gr)(t:Nat)(n:Int)(h:t<g.length):(bC g).set t (aU 3 ((bC g).getD t []) 2 [.int .i64 n])=bC (aJO g t n):=by
 have e:(bC g).getD t []=(g.getD t g0).c:=by have :=fG g t h;rwa [zI] at this
 rw [aJO,e,<-aS7];rfl
theorem bBD(g:List Gr)(t:Nat)(n:Int)(ht:t<g.length)(hl:g.length<=100000):aM Tryz.prog 215 [] [.lst 3 false (bC g),.int .i64 (t:Int),.int .i64 n] (.lst 3 false (bC (aJO g t n))) []:=by
 refine aF (ob0:= []) [] Tryz.func215 rfl rfl rfl rfl ?_
 refine Wk ?_
 refine bG (by rw [aI];omega) (by rw [aI];omega) ?_
 refine Wk ?_
 rw [aI,show decide (0<=(t:Int)/\(t:Int)< (g.length:Int))=true from decide_eq_true ⟨by omega,by omega⟩]
 refine Wk ?_
 rw [show 0+(t:Int).toNat=t by omega,show decide (t< (bC g).length)=true from decide_eq_true (by rw [aI];exact ht)]
 refine Wk ?_
 refine⟨[],trivial,rfl,trivial,rfl,?_⟩
 try subst hk
 repeat' (first |exact trivial |rfl |exact .inl rfl |exact .inr rfl |exact id |exact(λh=>Bool.noConfusion h)|refine And.intro ?_ ?_)
 ·rw [zF,aI];omega
 ·exact cA (aIC g t n ht) (by rw [zF,aI])
def cK(g:List Gr)(t:Nat):List Gr×Int:=bif decide ((g.getD t g0).lim- (g.getD t g0).chg<1) then(g,3) else(aJO g t ((g.getD t g0).chg+1),0)
def gB(g:List Gr)(t:Nat):List Gr×Int:=bif decide ((g.getD t g0).chg<1) then(g,4) else(aJO g t ((g.getD t g0).chg-1),0)
theorem bHA(g:List Gr)(t:Nat)(ht:t<g.length)(hg:rI g=true):aM Tryz.prog 116 [] [.lst 3 false (bC g),.int .i64 (t:Int),.int .i64 1] (.tup [.lst 3 false (bC (cK g t).1),.int .i64 (cK g t).2]) []:=by
 have hl:=(qH hg).2
 have k112:=aUF g false (by omega)
 rw [hg] at k112
 obtain⟨h1,h2⟩:=aAR hg ht
 have hget:=fG g t ht
 have k215:=bBD g t ((g.getD t g0).chg+1) ht (by omega)
 generalize hk:cK g t=q
 unfold cK at hk
 generalize g.getD t g0=x at h1 h2 hget k215 hk
 refine aF (ob0:= []) [] Tryz.func116 rfl rfl rfl rfl ?_
 refine cC k112 ?_
 rw [aI,show decide ((t:Int)<0)=false from decide_eq_false (by omega),show decide ((g.length:Int)<=(t:Int))=false from decide_eq_false (by omega)]
 refine Wk ?_
 first |refine aB (⟨rfl,by omega,by rw [aI];omega⟩) ?_ |refine aH (λ_=>⟨rfl,by omega,by rw [aI];omega⟩) ?_ |refine⟨λ_=>⟨rfl,by omega,by rw [aI];omega⟩,?_⟩
 rw [hget]
 refine Wk ?_
 first |refine aB (⟨rfl,by omega,by rw [aI];omega⟩) ?_ |refine aH (λ_=>⟨rfl,by omega,by rw [aI];omega⟩) ?_ |refine⟨λ_=>⟨rfl,by omega,by rw [aI];omega⟩,?_⟩
 rw [hget]
 refine Wk ?_
 rw [aR (n:=x.lim-x.chg) (by omega) (by omega)]
 refine aC (λc1=>?_) (λc1=>?_)<;> try simp only [zC,zA,zE,zD,zG] at c1
 ·rw [c1,cond_true] at hk
  subst hk
  refine Wk ?_
  try subst hk
  exact Lf
 rw [c1,cond_false] at hk
 subst hk
 refine Wk ?_
 first |refine aB (⟨rfl,by omega,by rw [aI];omega⟩) ?_ |refine aH (λ_=>⟨rfl,by omega,by rw [aI];omega⟩) ?_ |refine⟨λ_=>⟨rfl,by omega,by rw [aI];omega⟩,?_⟩
 rw [hget]
 refine Wk ?_
 rw [aR (n:=x.chg+1) (by omega) (by omega)]
 refine cC k215 ?_
 try subst hk
 exact Lf
theorem bI6(g:List Gr)(t:Nat)(ht:t<g.length)(hg:rI g=true):aM Tryz.prog 250 [] [.lst 3 false (bC g),.int .i64 (t:Int),.int .i64 1] (.tup [.lst 3 false (bC (gB g t).1),.int .i64 (gB g t).2]) []:=by
 have hl:=(qH hg).2
 have k112:=aUF g false (by omega)
 rw [hg] at k112
 obtain⟨h1,h2⟩:=aAR hg ht
 have hget:=fG g t ht
 have k215:=bBD g t ((g.getD t g0).chg-1) ht (by omega)
 generalize hk:gB g t=q
 unfold gB at hk
 generalize g.getD t g0=x at h1 h2 hget k215 hk
 refine aF (ob0:= []) [] Tryz.func250 rfl rfl rfl rfl ?_
 refine cC k112 ?_
 rw [aI,show decide ((t:Int)<0)=false from decide_eq_false (by omega),show decide ((g.length:Int)<=(t:Int))=false from decide_eq_false (by omega)]
 refine Wk ?_
 first |refine aB (⟨rfl,by omega,by rw [aI];omega⟩) ?_ |refine aH (λ_=>⟨rfl,by omega,by rw [aI];omega⟩) ?_ |refine⟨λ_=>⟨rfl,by omega,by rw [aI];omega⟩,?_⟩
 rw [hget]
 refine Wk ?_
 refine aC (λc1=>?_) (λc1=>?_)<;> try simp only [zC,zA,zE,zD,zG] at c1
 ·rw [c1,cond_true] at hk
  subst hk
  refine Wk ?_
  try subst hk
  exact Lf
 rw [c1,cond_false] at hk
 subst hk
 refine Wk ?_
 first |refine aB (⟨rfl,by omega,by rw [aI];omega⟩) ?_ |refine aH (λ_=>⟨rfl,by omega,by rw [aI];omega⟩) ?_ |refine⟨λ_=>⟨rfl,by omega,by rw [aI];omega⟩,?_⟩
 rw [hget]
 refine Wk ?_
 rw [aR (n:=x.chg-1) (by omega) (by omega)]
 refine cC k215 ?_
 try subst hk
 exact Lf
theorem bBK(g:List Gr)(t:Nat)(ht:t<g.length)(hg:rI g=true):aM Tryz.prog 234 [] [.lst 3 false (bC g),.int .i64 (t:Int),.int .i64 1] (.int .i64 0) []:=by
 have hl:=(qH hg).2
 have k129:=bHH g false (by omega)
 rw [hg] at k129
 refine aF (ob0:= []) [] Tryz.func234 rfl rfl rfl rfl ?_
 refine cC k129 ?_
 rw [aI,show decide ((t:Int)<0)=false from decide_eq_false (by omega),show decide ((g.length:Int)<=(t:Int))=false from decide_eq_false (by omega)]
 refine Wk ?_
 try subst hk
 exact Lf
theorem bNT(g:List Gr)(t:Nat)(ht:t<g.length)(hg:rI g=true):aM Tryz.prog 142 [] [.lst 3 false (bC g),.int .i64 (t:Int),.int .i64 1] (.tup [.lst 3 false (bC (cK g t).1),.int .i64 (cK g t).2]) []:=by
 have hl:=(qH hg).2
 have k234:=bBK g t ht hg
 obtain⟨h1,h2⟩:=aAR hg ht
 have hget:=fG g t ht
 have hgn:(bC g).getD t []=(g.getD t g0).c:=by rwa [zI] at hget
 have hput:=λn=>aIC g t n ht
 have k188:=aPB (bC g) false (by rw [aI];omega)
 generalize hk:cK g t=q
 unfold cK at hk
 rw [hgn] at hput
 generalize g.getD t g0=x at h1 h2 hget hgn hput hk
 refine aF (ob0:= []) [] Tryz.func142 rfl rfl rfl rfl ?_
 refine Wk ?_
 refine .inr ⟨λ_=>⟨[],_,_,_,k188,trivial,rfl,rfl,rfl,?_⟩,(by intro h;cases h)⟩
 refine cC k234 ?_
 first |refine aB (⟨rfl,by omega,by rw [aI];omega⟩) ?_ |refine aH (λ_=>⟨rfl,by omega,by rw [aI];omega⟩) ?_ |refine⟨λ_=>⟨rfl,by omega,by rw [aI];omega⟩,?_⟩
 rw [hget]
 refine Wk ?_
 first |refine aB (⟨rfl,by omega,by rw [aI];omega⟩) ?_ |refine aH (λ_=>⟨rfl,by omega,by rw [aI];omega⟩) ?_ |refine⟨λ_=>⟨rfl,by omega,by rw [aI];omega⟩,?_⟩
 rw [hget]
 refine Wk ?_
 rw [aR (n:=x.lim-x.chg) (by omega) (by omega)]
 refine aC (λc1=>?_) (λc1=>?_)<;> try simp only [zC,zA,zE,zD,zG] at c1
 ·rw [c1,cond_true] at hk
  subst hk
  refine Wk ?_
  refine⟨[],trivial,rfl,trivial,rfl,?_⟩
  try subst hk
  repeat' (first |exact trivial |rfl |exact .inl rfl |exact .inr rfl |exact id |exact(λh=>Bool.noConfusion h)|refine And.intro ?_ ?_)
  ·omega
  ·exact cA rfl rfl
 rw [c1,cond_false] at hk
 subst hk
 refine Wk ?_
 rw [aI,show decide (0<=(t:Int)/\(t:Int)< (g.length:Int))=true from decide_eq_true ⟨by omega,by omega⟩]
 refine Wk ?_
 rw [show 0+(t:Int).toNat=t by omega,show decide (t< (bC g).length)=true from decide_eq_true (by rw [aI];exact ht),hgn]
 refine Wk ?_
 rw [aR (n:=x.chg+1) (by omega) (by omega)]
 refine Wk ?_
 rw [show decide (0<=(t:Int)/\(t:Int)< (g.length:Int))=true from decide_eq_true ⟨by omega,by omega⟩]
 refine Wk ?_
 rw [show 0+(t:Int).toNat=t by omega,show decide (t< (bC g).length)=true from decide_eq_true (by rw [aI];exact ht),hgn]
 refine Wk ?_
 refine⟨[],trivial,rfl,trivial,rfl,?_⟩
 try subst hk
 repeat' (first |exact trivial |rfl |exact .inl rfl |exact .inr rfl |exact id |exact(λh=>Bool.noConfusion h)|refine And.intro ?_ ?_)
 ·rw [zF,aI];omega
 ·exact cA (hput _) (by rw [zF,aI])
theorem bI3(g:List Gr)(t:Nat)(ht:t<g.length)(hg:rI g=true):aM Tryz.prog 246 [] [.lst 3 false (bC g),.int .i64 (t:Int),.int .i64 1] (.tup [.lst 3 false (bC (gB g t).1),.int .i64 (gB g t).2]) []:=by
 have hl:=(qH hg).2
 have k234:=bBK g t ht hg
 obtain⟨h1,h2⟩:=aAR hg ht
 have hget:=fG g t ht
 have hgn:(bC g).getD t []=(g.getD t g0).c:=by rwa [zI] at hget
 have hput:=λn=>aIC g t n ht
 have k188:=aPB (bC g) false (by rw [aI];omega)
 generalize hk:gB g t=q
 unfold gB at hk
 rw [hgn] at hput
 generalize g.getD t g0=x at h1 h2 hget hgn hput hk
 refine aF (ob0:= []) [] Tryz.func246 rfl rfl rfl rfl ?_
 refine Wk ?_
 refine .inr ⟨λ_=>⟨[],_,_,_,k188,trivial,rfl,rfl,rfl,?_⟩,(by intro h;cases h)⟩
 refine cC k234 ?_
 first |refine aB (⟨rfl,by omega,by rw [aI];omega⟩) ?_ |refine aH (λ_=>⟨rfl,by omega,by rw [aI];omega⟩) ?_ |refine⟨λ_=>⟨rfl,by omega,by rw [aI];omega⟩,?_⟩
 rw [hget]
 refine Wk ?_
 refine aC (λc1=>?_) (λc1=>?_)<;> try simp only [zC,zA,zE,zD,zG] at c1
 ·rw [c1,cond_true] at hk
  subst hk
  refine Wk ?_
  refine⟨[],trivial,rfl,trivial,rfl,?_⟩
  try subst hk
  repeat' (first |exact trivial |rfl |exact .inl rfl |exact .inr rfl |exact id |exact(λh=>Bool.noConfusion h)|refine And.intro ?_ ?_)
  ·omega
  ·exact cA rfl rfl
 rw [c1,cond_false] at hk
 subst hk
 refine Wk ?_
 rw [aI,show decide (0<=(t:Int)/\(t:Int)< (g.length:Int))=true from decide_eq_true ⟨by omega,by omega⟩]
 refine Wk ?_
 rw [show 0+(t:Int).toNat=t by omega,show decide (t< (bC g).length)=true from decide_eq_true (by rw [aI];exact ht),hgn]
 refine Wk ?_
 rw [aR (n:=x.chg-1) (by omega) (by omega)]
 refine Wk ?_
 rw [show decide (0<=(t:Int)/\(t:Int)< (g.length:Int))=true from decide_eq_true ⟨by omega,by omega⟩]
 refine Wk ?_
 rw [show 0+(t:Int).toNat=t by omega,show decide (t< (bC g).length)=true from decide_eq_true (by rw [aI];exact ht),hgn]
 refine Wk ?_
 refine⟨[],trivial,rfl,trivial,rfl,?_⟩
 try subst hk
 repeat' (first |exact trivial |rfl |exact .inl rfl |exact .inr rfl |exact id |exact(λh=>Bool.noConfusion h)|refine And.intro ?_ ?_)
 ·rw [zF,aI];omega
 ·exact cA (hput _) (by rw [zF,aI])
end Go.Proofs.YtmhapcbjjpadnaaGreat
namespace Go.Proofs.YtmhapcbjjpadnaaGreat
open Go Go.Sk Go.RowKit
structure Pg where
 b:ByteArray
 v:Nat
 d:Nat
def Pg.c(p:Pg):List V:= [.str p.b,.int .i64 (p.v:Int),.int .i64 (p.d:Int)]
structure dI(p:Pg):Prop where
 size:p.b.size=16
 v:p.v<4
 d:p.d<4
 sub:jC false p.d p.v=0
def z16:ByteArray:=⟨#[0,0,0,0,0,0,0,0,0,0,0,0,0,0,0,0]⟩
theorem sW {x y:Nat} (hx:x<8)(hy:y<8):fH .and .i64 (x:Int) (y:Int)=((x &&& y:Nat):Int):=by
 have key:∀a:Fin 8,∀b:Fin 8,fH .and .i64 (a.val:Int) (b.val:Int)=((a.val &&& b.val:Nat):Int):=by decide
 exact key ⟨x,hx⟩ ⟨y,hy⟩
theorem bHD:aM Tryz.prog 120 [] [] (.agg (Pg.mk z16 0 0).c) []:=run_eq E1 40 (by kernel_rfl)
theorem bHE:aM Tryz.prog 122 [] [] (.agg (Pg.mk z16 3 0).c) []:=run_eq E1 40 (by kernel_rfl)
theorem aPD(p:Pg)(h:dI p):aM Tryz.prog 260 [] [.agg p.c] (.bool true) []:=by
 obtain⟨b,v,d⟩:=p
 obtain⟨h1,h2,h3,h4⟩:=h
 dsimp only at h1 h2 h3 h4
 have h4':=dM (x:=d) (y:=v) (by omega) (by omega)
 rw [h4] at h4'
 show aM Tryz.prog 260 [] [.agg [.str b,.int .i64 (v:Int),.int .i64 (d:Int)]] (.bool true) []
 refine aF (ob0:= []) [] Tryz.func260 rfl rfl rfl rfl ?_
 refine Wk ?_
 rw [h4',show((b.size:Int)==16)=true from beq_iff_eq.2 (by omega),show decide ((0:Int)<=(v:Int))=true from decide_eq_true (by omega),show decide ((v:Int)<=3)=true from decide_eq_true (by omega),show decide ((0:Int)<=(d:Int))=true from decide_eq_true (by omega),show decide ((d:Int)<=3)=true from decide_eq_true (by omega)]
 try subst hk
 exact Lf
theorem aV8(s:Nat)(hs:s<4):aM Tryz.prog 253 [] [.int .i64 (s:Int)] (.bool true) []:=by
 refine aF (ob0:= []) [] Tryz.func253 rfl rfl rfl rfl ?_
 refine Wk ?_
 rw [show decide ((0:Int)<=(s:Int))=true from decide_eq_true (by omega),show decide ((s:Int)<=3)=true from decide_eq_true (by omega)]
 try subst hk
 exact Lf
theorem bBJ(p:Pg)(h:dI p):aM Tryz.prog 233 [] [.agg p.c] (.bool true) []:=by
 obtain⟨b,v,d⟩:=p
 obtain⟨h1,h2,h3,h4⟩:=h
 dsimp only at h1 h2 h3 h4
 have h4':=dM (x:=d) (y:=v) (by omega) (by omega)
 rw [h4] at h4'
 show aM Tryz.prog 233 [] [.agg [.str b,.int .i64 (v:Int),.int .i64 (d:Int)]] (.bool true) []
 refine aF (ob0:= []) [] Tryz.func233 rfl rfl rfl rfl ?_
 refine Wk2 (aV8 v h2) (aV8 d h3) ?_
 rw [h4',show((b.size:Int)==16)=true from beq_iff_eq.2 (by omega)]
 try subst hk
 exact Lf
def gR(p:Pg)(s:Nat):Pg:=⟨p.b,p.v,p.d ||| (s &&& p.v)⟩
def aMM(p:Pg)(s:Nat):Pg:=⟨p.b,p.v,jC false p.d s⟩
theorem aUO(p:Pg)(h:dI p)(s:Nat)(hs:s<4):aM Tryz.prog 176 [] [.agg p.c,.int .i64 (s:Int)] (.tup [.agg (gR p s).c,.int .i64 0]) []:=by
 have k260:=aPD p h
 obtain⟨b,v,d⟩:=p
 obtain⟨h1,h2,h3,h4⟩:=h
 dsimp only at h1 h2 h3 h4
 show aM Tryz.prog 176 [] [.agg [.str b,.int .i64 (v:Int),.int .i64 (d:Int)],.int .i64 (s:Int)] (.tup [.agg [.str b,.int .i64 (v:Int),.int .i64 ((d ||| (s &&& v):Nat):Int)],.int .i64 0]) []
 refine aF (ob0:= []) [] Tryz.func176 rfl rfl rfl rfl ?_
 refine cC k260 ?_
 rw [show decide ((s:Int)<0)=false from decide_eq_false (by omega),show decide ((3:Int)< (s:Int))=false from decide_eq_false (by omega)]
 refine Wk ?_
 rw [sW (x:=s) (y:=v) (by omega) (by omega),cR (x:=d) (y:=s &&& v) (by omega) (by have :=Nat.and_le_right (n:=s) (m:=v);omega)]
 try subst hk
 exact Lf
theorem bIG(p:Pg)(h:dI p)(s:Nat)(hs:s<4):aM Tryz.prog 278 [] [.agg p.c,.int .i64 (s:Int)] (.tup [.agg (aMM p s).c,.int .i64 0]) []:=by
 have k260:=aPD p h
 obtain⟨b,v,d⟩:=p
 obtain⟨h1,h2,h3,h4⟩:=h
 dsimp only at h1 h2 h3 h4
 show aM Tryz.prog 278 [] [.agg [.str b,.int .i64 (v:Int),.int .i64 (d:Int)],.int .i64 (s:Int)] (.tup [.agg [.str b,.int .i64 (v:Int),.int .i64 ((jC false d s:Nat):Int)],.int .i64 0]) []
 refine aF (ob0:= []) [] Tryz.func278 rfl rfl rfl rfl ?_
 refine cC k260 ?_
 rw [show decide ((s:Int)<0)=false from decide_eq_false (by omega),show decide ((3:Int)< (s:Int))=false from decide_eq_false (by omega)]
 refine Wk ?_
 rw [dM (x:=d) (y:=s) (by omega) (by omega)]
 try subst hk
 exact Lf
theorem mO {p:Pg} (h:dI p) {s:Nat} (hs:s<4):dI (gR p s):=by
 have key:∀v d s:Fin 4,jC false d.val v.val=0->(d.val ||| (s.val &&& v.val))<4/\jC false (d.val ||| (s.val &&& v.val)) v.val=0:=by decide
 obtain⟨h5,h6⟩:=key ⟨p.v,h.v⟩ ⟨p.d,h.d⟩ ⟨s,hs⟩ h.sub
 exact⟨h.size,h.v,h5,h6⟩
theorem aFR {p:Pg} (h:dI p) {s:Nat} (hs:s<4):dI (aMM p s):=by
 have key:∀v d s:Fin 4,jC false d.val v.val=0->jC false d.val s.val<4/\jC false (jC false d.val s.val) v.val=0:=by decide
 obtain⟨h5,h6⟩:=key ⟨p.v,h.v⟩ ⟨p.d,h.d⟩ ⟨s,hs⟩ h.sub
 exact⟨h.size,h.v,h5,h6⟩
end Go.Proofs.YtmhapcbjjpadnaaGreat
namespace Go.Proofs.YtmhapcbjjpadnaaGreat
open Go Go.Sk Go.RowKit
def rF(off n a:Nat):Nat->Nat
 |0=>0
 |j+1=>rF off n a j+bif decide (off<=a+j)&&decide (a+j<off+n) then 1 else 0
def aBI(off n:Nat):Nat->Nat
 |0=>0
 |k+1=>bif decide (0<rF off n (k*8) 8) then aBI off n k ||| 2^k else aBI off n k
def aAJ(off n:Nat):Nat->Nat
 |0=>0
 |k+1=>bif rF off n (k*8) 8==8 then aAJ off n k ||| 2^k else aAJ off n k
def tch(off n:Nat):Nat:=aBI off n 2
def cov(off n:Nat):Nat:=aAJ off n 2
theorem aOL(off n a:Nat):∀j,rF off n a j<=j
 |0=>zJ 0
 |j+1=>by
  have :=aOL off n a j
  rw [rF];cases(decide (off<=a+j)&&decide (a+j<off+n))<;> simp <;> omega
theorem lJ(off n:Nat) {k:Nat} (hk:k<=2):aBI off n k<4/\aAJ off n k<4:=by
 have key:∀x y:Bool,(bif y then(bif x then 0 ||| 2^0 else 0)||| 2^1 else(bif x then 0 ||| 2^0 else 0))<4:=by decide
 have key1:∀x:Bool,(bif x then 0 ||| 2^0 else 0)<4:=by decide
 match k,hk with
 |0,_=>exact⟨by show 0<4;decide,by show 0<4;decide⟩
 |1,_=>exact⟨key1 _,key1 _⟩
 |2,_=>exact⟨key _ _,key _ _⟩
theorem aLL {k:Nat} (hk:k<2):IntKind.i64.wrap (1*2^min (k:Int).toNat IntKind.i64.bits)=((2^k:Nat):Int):=by
 match k,hk with
 |0,_=>decide
 |1,_=>decide
theorem bBQ(off n:Nat)(h:off+n<=16):aM Tryz.prog 264 [] [.int .i64 (off:Int),.int .i64 (n:Int)] (.tup [.int .i64 (tch off n:Int),.int .i64 (cov off n:Int)]) []:=by
 unfold tch cov
 refine aF (ob0:= []) [] Tryz.func264 rfl rfl rfl rfl ?_
 refine Wk ?_
 refine⟨Nat,λk=>k<=2,λk=>⟨[(0,⟨[],true,.int .i64 (off:Int)⟩),(1,⟨[],true,.int .i64 (n:Int)⟩),(6,⟨[],true,.int .i64 (aBI off n k:Int)⟩),(7,⟨[],true,.int .i64 (aAJ off n k:Int)⟩),(8,⟨[],true,.int .i64 (k:Int)⟩)],[],0⟩,λk=>2-k,⟨0,zK _,?_⟩,λk hI=>?_⟩
 ·exact Vw []
 dsimp only at hI⊢
 refine Wk ?_
 refine aC (λb1=>?_) (λb1=>?_)<;> try simp only [zC,zA,zE,zD,zG] at b1
 ·have b1:k<2:=by simp at b1;omega
  obtain⟨ht,hc⟩:=lJ off n hI
  refine Wk ?_
  rw [aR (n:=(k:Int)*8) (by omega) (by omega),show(k:Int)*8=((k*8+0:Nat):Int) by omega]
  refine Wk ?_
  refine⟨Nat,λj=>j<=8,λj=>⟨[(0,⟨[],true,.int .i64 (off:Int)⟩),(1,⟨[],true,.int .i64 (n:Int)⟩),(6,⟨[],true,.int .i64 (aBI off n k:Int)⟩),(7,⟨[],true,.int .i64 (aAJ off n k:Int)⟩),(8,⟨[],true,.int .i64 (k:Int)⟩),(9,⟨[],true,.int .i64 (rF off n (k*8) j:Int)⟩),(10,⟨[],true,.int .i64 ((k*8+j:Nat):Int)⟩)],[],0⟩,λj=>8-j,⟨0,zK _,?_⟩,λj hJ=>?_⟩
  ·exact Vw []
  dsimp only at hJ⊢
  have hcl:=aOL off n (k*8) j
  refine Wk ?_
  rw [aR (n:=(k:Int)+1) (by omega) (by omega),aR (n:=((k:Int)+1)*8) (by omega) (by omega)]
  refine aC (λb2=>?_) (λb2=>?_)<;> try simp only [zC,zA,zE,zD,zG] at b2
  ·have b2:j<8:=by simp at b2;omega
   have hst:rF off n (k*8) (j+1)=rF off n (k*8) j+bif decide (off<=k*8+j)&&decide (k*8+j<off+n) then 1 else 0:=rfl
   refine Wk ?_
   rw [aR (n:=(off:Int)+(n:Int)) (by omega) (by omega),show(bif decide ((off:Int)<=((k*8+j:Nat):Int)) then decide (((k*8+j:Nat):Int)< (off:Int)+(n:Int)) else false)=(decide (off<=k*8+j)&&decide (k*8+j<off+n)) by
    rw [show decide ((off:Int)<=((k*8+j:Nat):Int))=decide (off<=k*8+j) from decide_eq_decide.2 (by omega),show decide (((k*8+j:Nat):Int)< (off:Int)+(n:Int))=decide (k*8+j<off+n) from decide_eq_decide.2 (by omega)]
    cases decide (off<=k*8+j)<;> rfl]
   cases hb:(decide (off<=k*8+j)&&decide (k*8+j<off+n)) with
   |true=>
    rw [hb,cond_true] at hst
    refine Wk ?_
    rw [aR (n:=((rF off n (k*8) j:Nat):Int)+1) (by omega) (by omega),aR (n:=((k*8+j:Nat):Int)+1) (by omega) (by omega)]
    refine⟨j+1,by show j+1<=8;omega,?_,by show 8- (j+1)<8-j;omega⟩
    dsimp only
    rw [hst]
    exact Vw []
   |false=>
    rw [hb,cond_false,Nat.add_zero] at hst
    refine Wk ?_
    rw [aR (n:=((k*8+j:Nat):Int)+1) (by omega) (by omega)]
    refine⟨j+1,by show j+1<=8;omega,?_,by show 8- (j+1)<8-j;omega⟩
    dsimp only
    rw [hst]
    exact Vw []
  have b2:j=8:=by simp at b2;omega
  subst b2
  have e1:aBI off n (k+1)=bif decide (0<rF off n (k*8) 8) then aBI off n k ||| 2^k else aBI off n k:=rfl
  have e2:aAJ off n (k+1)=bif rF off n (k*8) 8==8 then aAJ off n k ||| 2^k else aAJ off n k:=rfl
  have h2k:2^k<8:=by
   rcases(show k=0\/k=1 by omega) with rfl |rfl <;> decide
  generalize rF off n (k*8) 8=c at hcl e1 e2
  refine Wk ?_
  rw [show decide ((0:Int)< (c:Int))=decide (0<c) from decide_eq_decide.2 (by omega)]
  cases h3:decide (0<c) with
  |true=>
   rw [h3,cond_true] at e1
   refine Wk ?_
   rw [aLL b1,cR (by omega) h2k]
   rw [show((c:Int)==8)=(c==8) by cases h4:(c==8) with
    |true=>exact beq_iff_eq.2 (by have :=beq_iff_eq.1 h4;omega)
    |false=>exact beq_eq_false_iff_ne.2 (by have :=beq_eq_false_iff_ne.1 h4;omega)]
   cases h4:(c==8) with
   |true=>
    rw [h4,cond_true] at e2
    refine Wk ?_
    rw [aLL b1,cR (by omega) h2k,cV (by omega)]
    refine⟨k+1,by show k+1<=2;omega,?_,by show 2- (k+1)<2-k;omega⟩
    dsimp only
    rw [e1,e2]
    exact Vw []
   |false=>
    rw [h4,cond_false] at e2
    refine Wk ?_
    rw [cV (by omega)]
    refine⟨k+1,by show k+1<=2;omega,?_,by show 2- (k+1)<2-k;omega⟩
    dsimp only
    rw [e1,e2]
    exact Vw []
  |false=>
   rw [h3,cond_false] at e1
   refine Wk ?_
   rw [show((c:Int)==8)=(c==8) by cases h4:(c==8) with
    |true=>exact beq_iff_eq.2 (by have :=beq_iff_eq.1 h4;omega)
    |false=>exact beq_eq_false_iff_ne.2 (by have :=beq_eq_false_iff_ne.1 h4;omega)]
   cases h4:(c==8) with
   |true=>
    rw [h4,cond_true] at e2
    refine Wk ?_
    rw [aLL b1,cR (by omega) h2k,cV (by omega)]
    refine⟨k+1,by show k+1<=2;omega,?_,by show 2- (k+1)<2-k;omega⟩
    dsimp only
    rw [e1,e2]
    exact Vw []
   |false=>
    rw [h4,cond_false] at e2
    refine Wk ?_
    rw [cV (by omega)]
    refine⟨k+1,by show k+1<=2;omega,?_,by show 2- (k+1)<2-k;omega⟩
    dsimp only
    rw [e1,e2]
    exact Vw []
 have b1:k=2:=by simp at b1;omega
 subst b1
 refine Wk ?_
 try subst hk
 exact Lf
theorem bD1 {off n k:Nat} (h:off+n<=16)(hk:k<2):decide (0<rF off n (k*8) 8)=decide (max off (k*8)<min (off+n) ((k+1)*8)):=by
 have key:∀off n:Fin 17,∀k:Fin 2,decide (0<rF off.val n.val (k.val*8) 8)=decide (max off.val (k.val*8)<min (off.val+n.val) ((k.val+1)*8)):=by decide +kernel
 exact key ⟨off,by omega⟩ ⟨n,by omega⟩ ⟨k,hk⟩
theorem aXQ {off n k:Nat} (h:off+n<=16)(hk:k<2):(rF off n (k*8) 8==8)=(decide (off<=k*8)&&decide ((k+1)*8<=off+n)):=by
 have key:∀off n:Fin 17,∀k:Fin 2,(rF off.val n.val (k.val*8) 8==8)=(decide (off.val<=k.val*8)&&decide ((k.val+1)*8<=off.val+n.val)):=by decide +kernel
 exact key ⟨off,by omega⟩ ⟨n,by omega⟩ ⟨k,hk⟩
theorem bBP(off n:Nat)(h:off+n<=16):aM Tryz.prog 261 [] [.int .i64 (off:Int),.int .i64 (n:Int)] (.int .i64 (tch off n:Int)) []:=by
 unfold tch
 refine aF (ob0:= []) [] Tryz.func261 rfl rfl rfl rfl ?_
 refine Wk ?_
 refine⟨Nat,λk=>k<=2,λk=>⟨[(0,⟨[],true,.int .i64 (off:Int)⟩),(1,⟨[],true,.int .i64 (n:Int)⟩),(5,⟨[],true,.int .i64 (aBI off n k:Int)⟩),(7,⟨[],true,.int .i64 (k:Int)⟩)],[],0⟩,λk=>2-k,⟨0,zK _,?_⟩,λk hI=>?_⟩
 ·exact Vw []
 dsimp only at hI⊢
 refine Wk ?_
 refine aC (λb1=>?_) (λb1=>?_)<;> try simp only [zC,zA,zE,zD,zG] at b1
 ·have b1:k<2:=by simp at b1;omega
  obtain⟨ht,hc⟩:=lJ off n hI
  have e1:aBI off n (k+1)=bif decide (0<rF off n (k*8) 8) then aBI off n k ||| 2^k else aBI off n k:=rfl
  rw [bD1 h b1] at e1
  have h2k:2^k<8:=by
   rcases(show k=0\/k=1 by omega) with rfl |rfl <;> decide
  refine Wk ?_
  rw [aR (n:=(k:Int)*8) (by omega) (by omega),aR (n:=(off:Int)+(n:Int)) (by omega) (by omega),aR (n:=(k:Int)+1) (by omega) (by omega),aR (n:=((k:Int)+1)*8) (by omega) (by omega),
   show decide (max (off:Int) ((k:Int)*8)<min ((off:Int)+(n:Int)) (((k:Int)+1)*8))=decide (max off (k*8)<min (off+n) ((k+1)*8)) from decide_eq_decide.2 (by omega)]
  cases h3:decide (max off (k*8)<min (off+n) ((k+1)*8)) with
  |true=>
   rw [h3,cond_true] at e1
   refine Wk ?_
   rw [aLL b1,cR (by omega) h2k,cV (by omega)]
   refine⟨k+1,by show k+1<=2;omega,?_,by show 2- (k+1)<2-k;omega⟩
   dsimp only
   rw [e1]
   exact Vw []
  |false=>
   rw [h3,cond_false] at e1
   refine Wk ?_
   rw [cV (by omega)]
   refine⟨k+1,by show k+1<=2;omega,?_,by show 2- (k+1)<2-k;omega⟩
   dsimp only
   rw [e1]
   exact Vw []
 have b1:k=2:=by simp at b1;omega
 subst b1
 refine Wk ?_
 try subst hk
 exact Lf
theorem bI8(off n:Nat)(h:off+n<=16):aM Tryz.prog 262 [] [.int .i64 (off:Int),.int .i64 (n:Int)] (.int .i64 (cov off n:Int)) []:=by
 unfold cov
 refine aF (ob0:= []) [] Tryz.func262 rfl rfl rfl rfl ?_
 refine Wk ?_
 refine⟨Nat,λk=>k<=2,λk=>⟨[(0,⟨[],true,.int .i64 (off:Int)⟩),(1,⟨[],true,.int .i64 (n:Int)⟩),(5,⟨[],true,.int .i64 (aAJ off n k:Int)⟩),(7,⟨[],true,.int .i64 (k:Int)⟩)],[],0⟩,λk=>2-k,⟨0,zK _,?_⟩,λk hI=>?_⟩
 ·exact Vw []
 dsimp only at hI⊢
 refine Wk ?_
 refine aC (λb1=>?_) (λb1=>?_)<;> try simp only [zC,zA,zE,zD,zG] at b1
 ·have b1:k<2:=by simp at b1;omega
  obtain⟨hc,ht⟩:=lJ off n hI
  have e1:aAJ off n (k+1)=bif rF off n (k*8) 8==8 then aAJ off n k ||| 2^k else aAJ off n k:=rfl
  rw [aXQ h b1] at e1
  have h2k:2^k<8:=by
   rcases(show k=0\/k=1 by omega) with rfl |rfl <;> decide
  refine Wk ?_
  rw [aR (n:=(k:Int)*8) (by omega) (by omega),aR (n:=(off:Int)+(n:Int)) (by omega) (by omega),aR (n:=(k:Int)+1) (by omega) (by omega),aR (n:=((k:Int)+1)*8) (by omega) (by omega),
   show(bif decide ((off:Int)<=(k:Int)*8) then decide (((k:Int)+1)*8<=(off:Int)+(n:Int)) else false)=(decide (off<=k*8)&&decide ((k+1)*8<=off+n)) by
    rw [show decide ((off:Int)<=(k:Int)*8)=decide (off<=k*8) from decide_eq_decide.2 (by omega),show decide (((k:Int)+1)*8<=(off:Int)+(n:Int))=decide ((k+1)*8<=off+n) from decide_eq_decide.2 (by omega)]
    cases decide (off<=k*8)<;> rfl]
  cases h3:(decide (off<=k*8)&&decide ((k+1)*8<=off+n)) with
  |true=>
   rw [h3,cond_true] at e1
   refine Wk ?_
   rw [aLL b1,cR (by omega) h2k,cV (by omega)]
   refine⟨k+1,by show k+1<=2;omega,?_,by show 2- (k+1)<2-k;omega⟩
   dsimp only
   rw [e1]
   exact Vw []
  |false=>
   rw [h3,cond_false] at e1
   refine Wk ?_
   rw [cV (by omega)]
   refine⟨k+1,by show k+1<=2;omega,?_,by show 2- (k+1)<2-k;omega⟩
   dsimp only
   rw [e1]
   exact Vw []
 have b1:k=2:=by simp at b1;omega
 subst b1
 refine Wk ?_
 try subst hk
 exact Lf
end Go.Proofs.YtmhapcbjjpadnaaGreat
namespace Go.Proofs.YtmhapcbjjpadnaaGreat
open Go Go.Sk Go.RowKit
def kX(p:Pg)(off n:Nat)(w:Bool):Nat:=jC false (bif w then jC false (tch off n) (cov off n) else tch off n) p.v
theorem bI9(off n:Nat)(h:off+n<=16):aM Tryz.prog 263 [] [.int .i64 (off:Int),.int .i64 (n:Int)] (.bool true) []:=by
 refine aF (ob0:= []) [] Tryz.func263 rfl rfl rfl rfl ?_
 refine Wk ?_
 rw [aR (n:=16- (off:Int)) (by omega) (by omega),show decide ((0:Int)<=(off:Int))=true from decide_eq_true (by omega),show decide ((0:Int)<=(n:Int))=true from decide_eq_true (by omega),show decide ((off:Int)<=16)=true from decide_eq_true (by omega),show decide ((n:Int)<=16- (off:Int))=true from decide_eq_true (by omega)]
 try subst hk
 exact Lf
theorem aUN(p:Pg)(h:dI p)(off n:Nat)(hr:off+n<=16)(w:Bool):aM Tryz.prog 164 [] [.agg p.c,.int .i64 (off:Int),.int .i64 (n:Int),.bool w] (.tup [.int .i64 (kX p off n w:Int),.int .i64 0]) []:=by
 have k260:=aPD p h
 have k263:=bI9 off n hr
 have k264:=bBQ off n hr
 obtain⟨h5,h6⟩:=lJ off n (zJ 2)
 have h5:tch off n<4:=h5
 have h6:cov off n<4:=h6
 obtain⟨b,v,d⟩:=p
 obtain⟨h1,h2,h3,h4⟩:=h
 dsimp only at h1 h2 h3 h4
 generalize hk:kX ⟨b,v,d⟩ off n w=q
 unfold kX at hk
 dsimp only at hk
 generalize tch off n=x at *
 generalize cov off n=y at *
 have h7:jC false x y<8:=aMI (by omega) (by omega)
 show aM Tryz.prog 164 [] [.agg [.str b,.int .i64 (v:Int),.int .i64 (d:Int)],.int .i64 (off:Int),.int .i64 (n:Int),.bool w] _ []
 refine aF (ob0:= []) [] Tryz.func164 rfl rfl rfl rfl ?_
 refine Wk3 k260 k263 k264 ?_
 cases w with
 |true=>
  refine Wk ?_
  rw [dM (x:=x) (y:=y) (by omega) (by omega)]
  rw [dM h7 (by omega)]
  subst hk
  try subst hk
  exact Lf
 |false=>
  refine Wk ?_
  rw [dM (x:=x) (y:=v) (by omega) (by omega)]
  subst hk
  try subst hk
  exact Lf
theorem aUM(p:Pg)(h:dI p)(off n:Nat)(hr:off+n<=16)(w:Bool):aM Tryz.prog 163 [] [.agg p.c,.int .i64 (off:Int),.int .i64 (n:Int),.bool w] (.tup [.int .i64 (kX p off n w:Int),.int .i64 0]) []:=by
 have k233:=bBJ p h
 have k261:=bBP off n hr
 have k262:=bI8 off n hr
 obtain⟨h5,h6⟩:=lJ off n (zJ 2)
 have h5:tch off n<4:=h5
 have h6:cov off n<4:=h6
 obtain⟨b,v,d⟩:=p
 obtain⟨h1,h2,h3,h4⟩:=h
 dsimp only at h1 h2 h3 h4
 generalize hk:kX ⟨b,v,d⟩ off n w=q
 unfold kX at hk
 dsimp only at hk
 generalize tch off n=x at *
 generalize cov off n=y at *
 have h7:jC false x y<8:=aMI (by omega) (by omega)
 show aM Tryz.prog 163 [] [.agg [.str b,.int .i64 (v:Int),.int .i64 (d:Int)],.int .i64 (off:Int),.int .i64 (n:Int),.bool w] _ []
 refine aF (ob0:= []) [] Tryz.func163 rfl rfl rfl rfl ?_
 refine cC k233 ?_
 rw [aR (n:=16- (off:Int)) (by omega) (by omega),show decide ((off:Int)<0)=false from decide_eq_false (by omega),show decide ((n:Int)<0)=false from decide_eq_false (by omega),show decide ((16:Int)< (off:Int))=false from decide_eq_false (by omega),show decide (16- (off:Int)< (n:Int))=false from decide_eq_false (by omega)]
 refine cC k261 ?_
 cases w with
 |true=>
  refine cC k262 ?_
  rw [dM (x:=x) (y:=y) (by omega) (by omega)]
  rw [dM h7 (by omega)]
  subst hk
  try subst hk
  exact Lf
 |false=>
  refine Wk ?_
  rw [dM (x:=x) (y:=v) (by omega) (by omega)]
  subst hk
  try subst hk
  exact Lf
theorem bIV(p:Pg)(h:dI p)(s:Nat)(hs:s<4):aM Tryz.prog 327 [] [.agg p.c,.int .i64 (s:Int)] (.int .i64 0) []:=by
 have k233:=bBJ p h
 have k253:=aV8 s hs
 obtain⟨b,v,d⟩:=p
 show aM Tryz.prog 327 [] [.agg [.str b,.int .i64 (v:Int),.int .i64 (d:Int)],.int .i64 (s:Int)] _ []
 refine aF (ob0:= []) [] Tryz.func327 rfl rfl rfl rfl ?_
 refine Wk2 k233 k253 ?_
 try subst hk
 exact Lf
theorem bIB(p:Pg)(h:dI p)(s:Nat)(hs:s<4):aM Tryz.prog 268 [] [.agg p.c,.int .i64 (s:Int)] (.tup [.agg (gR p s).c,.int .i64 0]) []:=by
 have k327:=bIV p h s hs
 obtain⟨b,v,d⟩:=p
 obtain⟨h1,h2,h3,h4⟩:=h
 dsimp only at h1 h2 h3 h4
 show aM Tryz.prog 268 [] [.agg [.str b,.int .i64 (v:Int),.int .i64 (d:Int)],.int .i64 (s:Int)] (.tup [.agg [.str b,.int .i64 (v:Int),.int .i64 ((d ||| (s &&& v):Nat):Int)],.int .i64 0]) []
 refine aF (ob0:= []) [] Tryz.func268 rfl rfl rfl rfl ?_
 refine cC k327 ?_
 rw [sW (x:=s) (y:=v) (by omega) (by omega),cR (x:=d) (y:=s &&& v) (by omega) (by have :=Nat.and_le_right (n:=s) (m:=v);omega)]
 try subst hk
 exact Lf
theorem bBR(p:Pg)(h:dI p)(off n:Nat)(hr:off+n<=16)(w:Bool)(hn:kX p off n w=0):aM Tryz.prog 265 [] [.agg p.c,.int .i64 (off:Int),.int .i64 (n:Int),.bool w] (.int .i64 0) []:=by
 have k163:=aUM p h off n hr w
 rw [hn] at k163
 obtain⟨b,v,d⟩:=p
 show aM Tryz.prog 265 [] [.agg [.str b,.int .i64 (v:Int),.int .i64 (d:Int)],.int .i64 (off:Int),.int .i64 (n:Int),.bool w] _ []
 refine aF (ob0:= []) [] Tryz.func265 rfl rfl rfl rfl ?_
 refine cC k163 ?_
 try subst hk
 exact Lf
end Go.Proofs.YtmhapcbjjpadnaaGreat
namespace Go.Proofs.YtmhapcbjjpadnaaGreat
open Go Go.Sk Go.RowKit
def aBK(b:ByteArray)(off:Nat)(s:ByteArray):ByteArray:=b.extract 0 off++s++b.extract (off+s.size) b.size
def dP(p:Pg)(off:Nat)(s:ByteArray):Pg:=⟨aBK p.b off s,p.v ||| tch off s.size,p.d ||| tch off s.size⟩
theorem cF(b:ByteArray)(i j:Nat):(b.extract i j).size=min j b.size-i:=by simp [ByteArray.size_extract]
theorem kP(a b:ByteArray):(a++b).size=a.size+b.size:=ByteArray.size_append
theorem bBH(p:Pg)(h:dI p)(off:Nat)(s:ByteArray)(hr:off+s.size<=16)(hn:kX p off s.size true=0):aM Tryz.prog 220 [] [.agg p.c,.int .i64 (off:Int),.str s] (.tup [.agg (dP p off s).c,.int .i64 0]) []:=by
 have k164:=aUN p h off s.size hr true
 have k264:=bBQ off s.size hr
 rw [hn] at k164
 obtain⟨h5,h6⟩:=lJ off s.size (zJ 2)
 have h5:tch off s.size<4:=h5
 obtain⟨b,v,d⟩:=p
 obtain⟨h1,h2,h3,h4⟩:=h
 dsimp only at h1 h2 h3 h4
 show aM Tryz.prog 220 [] [.agg [.str b,.int .i64 (v:Int),.int .i64 (d:Int)],.int .i64 (off:Int),.str s] (.tup [.agg [.str (aBK b off s),.int .i64 ((v ||| tch off s.size:Nat):Int),.int .i64 ((d ||| tch off s.size:Nat):Int)],.int .i64 0]) []
 generalize tch off s.size=x at *
 refine aF (ob0:= []) [] Tryz.func220 rfl rfl rfl rfl ?_
 refine Wk2 k164 k264 ?_
 first |refine aB (⟨by omega,by omega,by omega⟩) ?_ |refine aH (λ_=>⟨by omega,by omega,by omega⟩) ?_ |refine⟨λ_=>⟨by omega,by omega,by omega⟩,?_⟩
 refine Wk ?_
 first |refine aB (by rw [cF];omega) ?_ |refine aH (λ_=>by rw [cF];omega) ?_ |refine⟨λ_=>by rw [cF];omega,?_⟩
 refine Wk ?_
 rw [aR (n:=(off:Int)+(s.size:Int)) (by omega) (by omega),show(off:Int)+(s.size:Int)=((off+s.size:Nat):Int) by omega]
 refine Wk ?_
 first |refine aB (⟨by omega,by omega,by omega⟩) ?_ |refine aH (λ_=>⟨by omega,by omega,by omega⟩) ?_ |refine⟨λ_=>⟨by omega,by omega,by omega⟩,?_⟩
 refine Wk ?_
 first |refine aB (by rw [kP,cF,cF];omega) ?_ |refine aH (λ_=>by rw [kP,cF,cF];omega) ?_ |refine⟨λ_=>by rw [kP,cF,cF];omega,?_⟩
 refine Wk ?_
 rw [cR (x:=v) (by omega) (by omega)]
 refine Wk ?_
 rw [cR (x:=d) (by omega) (by omega)]
 refine Wk ?_
 try subst hk
 exact Lf
theorem bIA(p:Pg)(h:dI p)(off:Nat)(s:ByteArray)(hr:off+s.size<=16)(hn:kX p off s.size true=0):aM Tryz.prog 266 [] [.agg p.c,.int .i64 (off:Int),.str s] (.tup [.agg (dP p off s).c,.int .i64 0]) []:=by
 have k265:=bBR p h off s.size hr true hn
 have k261:=bBP off s.size hr
 obtain⟨h5,h6⟩:=lJ off s.size (zJ 2)
 have h5:tch off s.size<4:=h5
 obtain⟨b,v,d⟩:=p
 obtain⟨h1,h2,h3,h4⟩:=h
 dsimp only at h1 h2 h3 h4
 show aM Tryz.prog 266 [] [.agg [.str b,.int .i64 (v:Int),.int .i64 (d:Int)],.int .i64 (off:Int),.str s] (.tup [.agg [.str (aBK b off s),.int .i64 ((v ||| tch off s.size:Nat):Int),.int .i64 ((d ||| tch off s.size:Nat):Int)],.int .i64 0]) []
 generalize tch off s.size=x at *
 refine aF (ob0:= []) [] Tryz.func266 rfl rfl rfl rfl ?_
 refine Wk2 k265 k261 ?_
 first |refine aB (⟨by omega,by omega,by omega⟩) ?_ |refine aH (λ_=>⟨by omega,by omega,by omega⟩) ?_ |refine⟨λ_=>⟨by omega,by omega,by omega⟩,?_⟩
 refine Wk ?_
 first |refine aB (by rw [cF];omega) ?_ |refine aH (λ_=>by rw [cF];omega) ?_ |refine⟨λ_=>by rw [cF];omega,?_⟩
 refine Wk ?_
 rw [aR (n:=(off:Int)+(s.size:Int)) (by omega) (by omega),show(off:Int)+(s.size:Int)=((off+s.size:Nat):Int) by omega]
 refine Wk ?_
 first |refine aB (⟨by omega,by omega,by omega⟩) ?_ |refine aH (λ_=>⟨by omega,by omega,by omega⟩) ?_ |refine⟨λ_=>⟨by omega,by omega,by omega⟩,?_⟩
 refine Wk ?_
 first |refine aB (by rw [kP,cF,cF];omega) ?_ |refine aH (λ_=>by rw [kP,cF,cF];omega) ?_ |refine⟨λ_=>by rw [kP,cF,cF];omega,?_⟩
 refine Wk ?_
 rw [cR (x:=v) (by omega) (by omega)]
 refine Wk ?_
 rw [cR (x:=d) (by omega) (by omega)]
 refine Wk ?_
 try subst hk
 exact Lf
end Go.Proofs.YtmhapcbjjpadnaaGreat
namespace Go.Proofs.YtmhapcbjjpadnaaGreat
open Go Go.Sk Go.RowKit
structure Df where
 dev:Int
 slot:Int
 E:cM
 size:Nat
 blocks:Nat
 ec:Int
 ee:Int
def Df.c(f:Df):List V:= [.int .i64 f.dev,.int .i64 f.slot]++can f.E++ [.int .i64 (f.size:Int),.int .i64 (f.blocks:Int),.int .i64 f.ec,.int .i64 f.ee,.int .i64 0,.int .i64 0,.int .i64 0,.int .i64 0,.int .i64 0]
structure Us where
 file:Nat
 page:Nat
 p:Pg
 ten:Nat
 holds:Nat
 rd:Nat
 wr:Nat
def Us.c(u:Us):List V:= [.int .i64 (u.file:Int),.int .i64 (u.page:Int),.str u.p.b,.int .i64 (u.p.v:Int),.int .i64 (u.p.d:Int),.int .i64 (u.ten:Int),.int .i64 (u.holds:Int),.int .i64 (u.rd:Int),.int .i64 (u.wr:Int)]
def frC(o:Option Us):List V:=match o with
 |none=>fre.c
 |some u=>u.c
structure Dc where
 fl:List Df
 fr:List (Option Us)
 zo:List Zn
 gr:List Gr
 ls:List Ls
 ck:List Int
 pt:List Pt
def bA(L:List Df):List (List V):=L.map Df.c
def aV(L:List (Option Us)):List (List V):=L.map frC
def Dc.c(c:Dc):List V:= [.lst 15 false (bA c.fl),.lst 9 false (aV c.fr),.lst 6 false (aQ c.zo),.lst 3 false (bC c.gr),.lst 3 false (bW c.ls),.lst 1 false (aE c.ck),.lst 5 false (aY c.pt)]
theorem aZ(L:List Df):(bA L).length=L.length:=List.length_map _
theorem bU(L:List (Option Us)):(aV L).length=L.length:=List.length_map _
def Dc.o(c:Dc):List V:= [.sl 0 0 c.fl.length,.sl 1 0 c.fr.length,.lst 6 false (aQ c.zo),.sl 2 0 c.gr.length,.sl 3 0 c.ls.length,.sl 4 0 c.ck.length,.lst 5 false (aY c.pt)]
def Dc.ob(c:Dc):List Sk.Obj:= [.row 15 (bA c.fl),.row 9 (aV c.fr),.row 3 (bC c.gr),.row 3 (bW c.ls),.row 1 (aE c.ck)]
structure SmD(c:Dc):Prop where
 fl:c.fl.length<=8
 fr:c.fr.length<=64
 gr:c.gr.length<=4
 ls:c.ls.length<=4
 ck:c.ck.length<=4
theorem aL1(c:Dc)(h:SmD c):aM Tryz.prog 85 [] [.agg c.c] (.agg c.o) c.ob:=by
 obtain⟨fl,fr,zo,gr,ls,ck,pt⟩:=c
 obtain⟨h1,h2,h3,h4,h5⟩:=h
 dsimp only at h1 h2 h3 h4 h5
 show aM Tryz.prog 85 [] [.agg [.lst 15 false (bA fl),.lst 9 false (aV fr),.lst 6 false (aQ zo),.lst 3 false (bC gr),.lst 3 false (bW ls),.lst 1 false (aE ck),.lst 5 false (aY pt)]]
  (.agg [.sl 0 0 fl.length,.sl 1 0 fr.length,.lst 6 false (aQ zo),.sl 2 0 gr.length,.sl 3 0 ls.length,.sl 4 0 ck.length,.lst 5 false (aY pt)]) [.row 15 (bA fl),.row 9 (aV fr),.row 3 (bC gr),.row 3 (bW ls),.row 1 (aE ck)]
 refine aF (ob0:= []) [] Tryz.func85 rfl rfl rfl rfl ?_
 refine Wk ?_
 refine bG (by rw [aZ];omega) (by rw [aZ];omega) ?_
 refine Wk ?_
 refine bG (by rw [bU];omega) (by rw [bU];omega) ?_
 refine Wk ?_
 refine bG (by rw [aI];omega) (by rw [aI];omega) ?_
 refine Wk ?_
 refine bG (by rw [bT];omega) (by rw [bT];omega) ?_
 refine Wk ?_
 refine bG (by rw [aA];omega) (by rw [aA];omega) ?_
 refine Wk ?_
 rw [aZ,bU,aI,bT,aA]
 try subst hk
 exact⟨[some 2,some 3,some 4,some 5,some 6],Cl,rfl,Cl,rfl,Cl⟩
theorem bCK {k:Nat} (hk:k<8):IntKind.i64.wrap (1*2^min (k:Int).toNat IntKind.i64.bits)=((2^k:Nat):Int):=by
 have key:∀k:Fin 8,IntKind.i64.wrap (1*2^min (k.val:Int).toNat IntKind.i64.bits)=((2^k.val:Nat):Int):=by decide
 exact key ⟨k,hk⟩
theorem aJF {x k:Nat} (hx:x<256)(hk:k<8):fH .and .i64 (x:Int) ((2^k:Nat):Int)=((x &&& 2^k:Nat):Int):=by
 have key:∀x:Fin 256,∀k:Fin 8,fH .and .i64 (x.val:Int) ((2^k.val:Nat):Int)=((x.val &&& 2^k.val:Nat):Int):=by decide +kernel
 exact key ⟨x,hx⟩ ⟨k,hk⟩
def lZ(blocks page:Nat):Bool:=((blocks &&& 2^page:Nat):Int)==0
theorem bAS(f:Df)(hE:bH f.E)(page:Nat)(hp:page<8)(hb:f.blocks<256):aM Tryz.prog 121 [] [.agg f.c,.int .i64 (page:Int)] (.bool (lZ f.blocks page)) []:=by
 obtain⟨k0,k1,k2,k3,e⟩:=bB hE
 obtain⟨dev,slot,E,size,blocks,ec,ee⟩:=f
 dsimp only at hb e
 unfold Df.c
 dsimp only
 rw [e]
 refine aF (ob0:= []) [] Tryz.func121 rfl rfl rfl rfl ?_
 refine Wk ?_
 first |refine aB (by omega) ?_ |refine aH (λ_=>by omega) ?_ |refine⟨λ_=>by omega,?_⟩
 refine Wk ?_
 rw [bCK hp,aJF hb hp]
 try subst hk
 exact Lf
theorem bHJ(f:Df)(hE:bH f.E)(page:Nat)(hp:page<8)(hb:f.blocks<256):aM Tryz.prog 145 [] [.agg f.c,.int .i64 (page:Int)] (.bool (lZ f.blocks page)) []:=by
 obtain⟨k0,k1,k2,k3,e⟩:=bB hE
 obtain⟨dev,slot,E,size,blocks,ec,ee⟩:=f
 dsimp only at hb e
 unfold Df.c
 dsimp only
 rw [e]
 refine aF (ob0:= []) [] Tryz.func145 rfl rfl rfl rfl ?_
 refine Wk ?_
 first |refine aB (by omega) ?_ |refine aH (λ_=>by omega) ?_ |refine⟨λ_=>by omega,?_⟩
 refine Wk ?_
 rw [bCK hp,aJF hb hp]
 try subst hk
 exact Lf
theorem aBY(c:Dc)(f:Nat)(hf:f<c.fl.length):aM Tryz.prog 115 [] [.agg c.c,.int .i64 (f:Int)] (.bool true) []:=by
 obtain⟨fl,fr,zo,gr,ls,ck,pt⟩:=c
 dsimp only at hf
 show aM Tryz.prog 115 [] [.agg [.lst 15 false (bA fl),.lst 9 false (aV fr),.lst 6 false (aQ zo),.lst 3 false (bC gr),.lst 3 false (bW ls),.lst 1 false (aE ck),.lst 5 false (aY pt)],.int .i64 (f:Int)] (.bool true) []
 refine aF (ob0:= []) [] Tryz.func115 rfl rfl rfl rfl ?_
 refine Wk ?_
 rw [aZ,show decide ((0:Int)<=(f:Int))=true from decide_eq_true (by omega),show decide ((f:Int)< (fl.length:Int))=true from decide_eq_true (by omega)]
 try subst hk
 exact Lf
end Go.Proofs.YtmhapcbjjpadnaaGreat
namespace Go.Proofs.YtmhapcbjjpadnaaGreat
open Go Go.Sk Go.RowKit
def aP:Df:=⟨0,0,λ_=>(0,0),0,0,0,0⟩
theorem eJ(L:List Df)(k:Nat)(h:k<L.length):(bA L).getD k []=(L.getD k aP).c:=by
 simp [bA,zH,h]
theorem cH(L:List (Option Us))(k:Nat)(h:k<L.length):(aV L).getD k []=frC (L.getD k none):=by
 simp [aV,zH,h]
def mE(E:cM)(u:Us):cM:=jM (jM E u.page (u.p.d != 0) 1) u.page (u.wr != 0) 2
theorem jN(E:cM)(i m:Nat)(on:Bool)(j:Nat):(jM E i on m j).1=(E j).1:=by
 unfold jM
 by_cases e:j=i
 ·subst e;rw [dH]
 ·rw [cT e]
theorem rK.mrk {E:cM} (h:rK E) {i m:Nat} {on:Bool} :rK (jM E i on m):=λj hj=>by rw [jN];exact h j hj
theorem bAM {E:cM} (hE:bH E)(hs:rK E) {u:Us} (hv:0< (E u.page).1):bH (mE E u)/\rK (mE E u):=by
 have h1:=hE.mrk (i:=u.page) (m:=1) (on:=(u.p.d != 0)) (by decide) hv
 exact⟨h1.mrk (i:=u.page) (m:=2) (on:=(u.wr != 0)) (by decide) (by rw [jN];exact hv),hs.mrk.mrk⟩
def eP(f:Df)(E:cM):Df:=⟨f.dev,f.slot,E,f.size,f.blocks,f.ec,f.ee⟩
theorem nN(L:List Df)(k:Nat)(E:cM)(h:k<L.length)(hE:bH (L.getD k aP).E)(hE':bH E):(bA L).set k (aU 15 ((bA L).getD k []) 2 (can E))=bA (L.set k (eP (L.getD k aP) E)):=by
 rw [eJ L k h,bA,bA,List.map_set]
 obtain⟨k0,k1,k2,k3,e⟩:=bB hE
 obtain⟨q0,q1,q2,q3,e'⟩:=bB hE'
 congr 1
 unfold Df.c eP
 dsimp only
 rw [e,e']
 rfl
structure jQ(c:Dc)(n:Nat)(u:Us):Prop where
 at_:n<c.fr.length
 get:c.fr.getD n none=some u
 file:u.file<c.fl.length
 page:u.page<16
 E:bH (c.fl.getD u.file aP).E
 sup:rK (c.fl.getD u.file aP).E
 val:0< ((c.fl.getD u.file aP).E u.page).1
 pg:dI u.p
 ten:u.ten<c.ls.length
 rd:u.rd<4
 wr:u.wr<4
def Dc.mark(c:Dc)(u:Us):Dc:=⟨c.fl.set u.file (eP (c.fl.getD u.file aP) (mE (c.fl.getD u.file aP).E u)),c.fr,c.zo,c.gr,c.ls,c.ck,c.pt⟩
theorem bBO(c:Dc)(n:Nat)(u:Us)(hc:SmD c)(h:jQ c n u):aM Tryz.prog 252 c.ob [.agg c.o,.int .i64 ((n+1:Nat):Int)] (.agg (c.mark u).o) (c.mark u).ob:=by
 obtain⟨h1,h2,h3,h4,h5,h6,h7,h8,h9,h10,h11⟩:=h
 obtain⟨fl,fr,zo,gr,ls,ck,pt⟩:=c
 obtain⟨s1,s2,s3,s4,s5⟩:=hc
 dsimp only at h1 h2 h3 h5 h6 h7 h9 s1 s2 s3 s4 s5
 have hgu:=cH fr n h1
 rw [h2] at hgu
 have hgu:(aV fr).getD n []=u.c:=hgu
 have hgf:=eJ fl u.file h3
 obtain⟨m1,m2⟩:=bAM h5 h6 h7
 have hput:=nN fl u.file _ h3 h5 m1
 rw [hgf] at hput
 unfold Dc.mark
 dsimp only
 generalize hff:fl.getD u.file aP=f at *
 show aM Tryz.prog 252 [.row 15 (bA fl),.row 9 (aV fr),.row 3 (bC gr),.row 3 (bW ls),.row 1 (aE ck)] [.agg [.sl 0 0 fl.length,.sl 1 0 fr.length,.lst 6 false (aQ zo),.sl 2 0 gr.length,.sl 3 0 ls.length,.sl 4 0 ck.length,.lst 5 false (aY pt)],.int .i64 ((n+1:Nat):Int)]
  (.agg [.sl 0 0 (fl.set u.file (eP f (mE f.E u))).length,.sl 1 0 fr.length,.lst 6 false (aQ zo),.sl 2 0 gr.length,.sl 3 0 ls.length,.sl 4 0 ck.length,.lst 5 false (aY pt)]) [.row 15 (bA (fl.set u.file (eP f (mE f.E u)))),.row 9 (aV fr),.row 3 (bC gr),.row 3 (bW ls),.row 1 (aE ck)]
 rw [zF]
 generalize bA (fl.set u.file (eP f (mE f.E u)))=R at hput⊢
 obtain⟨file,page,⟨b,v,d⟩,ten,holds,rd,wr⟩:=u
 have hgu:(aV fr).getD n []=[.int .i64 (file:Int),.int .i64 (page:Int),.str b,.int .i64 (v:Int),.int .i64 (d:Int),.int .i64 (ten:Int),.int .i64 (holds:Int),.int .i64 (rd:Int),.int .i64 (wr:Int)]:=hgu
 dsimp only [mE] at h3 h4 h7 h8 h10 h11 hput hgf m1 m2
 obtain⟨k0,k1,k2,k3,e⟩:=bB h5
 have hfc:f.c=[.int .i64 f.dev,.int .i64 f.slot,.int .i64 (hgt f.E:Int),.lst k0 k1 k2,.int .i64 k3,.int .i64 (lI f.E 0 (4^hgt f.E):Nat),.int .i64 (f.size:Int),.int .i64 (f.blocks:Int),.int .i64 f.ec,.int .i64 f.ee,.int .i64 0,.int .i64 0,.int .i64 0,.int .i64 0,.int .i64 0]:=by unfold Df.c;rw [e];rfl
 rw [hfc] at hgf hput
 have hd4:=h8.d
 dsimp only at hd4
 refine aF (ob0:= [.row 15 (bA fl),.row 9 (aV fr),.row 3 (bC gr),.row 3 (bW ls),.row 1 (aE ck)]) [] Tryz.func252 rfl rfl rfl rfl ?_
 refine Wk ?_
 rw [aR (n:=((n+1:Nat):Int)-1) (by omega) (by omega),show((n+1:Nat):Int)-1=(n:Int) by omega,show decide (0<=(n:Int)/\(n:Int)< (fr.length:Int))=true from decide_eq_true ⟨by omega,by omega⟩]
 refine Wk ?_
 rw [show 0+(n:Int).toNat=n by omega,show decide (n< (aV fr).length)=true from decide_eq_true (by rw [bU];exact h1),hgu]
 refine Wk ?_
 rw [show decide (0<=(file:Int)/\(file:Int)< (fl.length:Int))=true from decide_eq_true ⟨by omega,by omega⟩]
 refine Wk ?_
 rw [show 0+(file:Int).toNat=file by omega,show decide (file< (bA fl).length)=true from decide_eq_true (by rw [aZ];exact h3),hgf]
 refine Wk ?_
 have hdd:(((d:Nat):Int) != 0)=(d != 0):=by
  cases hd:(d != 0) with
  |true=>rw [bne_iff_ne] at hd⊢;omega
  |false=>rw [bne_eq_false_iff_eq] at hd⊢;omega
 have hww:(((wr:Nat):Int) != 0)=(wr != 0):=by
  cases hd:(wr != 0) with
  |true=>rw [bne_iff_ne] at hd⊢;omega
  |false=>rw [bne_eq_false_iff_eq] at hd⊢;omega
 rw [hdd]
 cases hd:(d != 0) with
 |true=>
  rw [hd] at hput m1
  have n1:=h5.mrk (i:=page) (m:=1) (on:=true) (by decide) h7
  have n2:=h6.mrk (i:=page) (m:=1) (on:=true)
  have j1:=aVC h5 h6 page h4 1 (.inl rfl) h7
  obtain⟨p0,p1,p2,p3,e1⟩:=bB n1
  rw [e,e1] at j1
  refine cC j1 ?_
  rw [hww]
  cases hw:(wr != 0) with
  |true=>
   have j2:=aVC n1 n2 page h4 2 (.inr (.inl rfl)) (by rw [jN];exact h7)
   rw [hw] at hput m1
   obtain⟨r0,r1,r2,r3,e2⟩:=bB m1
   rw [e1,e2] at j2
   rw [e2] at hput
   refine cC j2 ?_
   rw [show decide (0<=(file:Int)/\(file:Int)< (fl.length:Int))=true from decide_eq_true ⟨by omega,by omega⟩]
   refine Wk ?_
   rw [show 0+(file:Int).toNat=file by omega,show decide (file< (bA fl).length)=true from decide_eq_true (by rw [aZ];exact h3),hgf]
   refine Wk ?_
   try subst hk
   refine⟨[some 0,some 1,some 2,some 3,some 4],?_,rfl,?_,rfl,?_⟩
   all_goals repeat' (first |exact trivial |rfl |exact .inl rfl |exact .inr rfl |exact id |exact(λh=>Bool.noConfusion h)|refine And.intro ?_ ?_)
   exact hput
  |false=>
   have j2:=aVD n1 n2 page h4 2 (.inr (.inl rfl)) (by rw [jN];exact h7)
   rw [hw] at hput m1
   obtain⟨r0,r1,r2,r3,e2⟩:=bB m1
   rw [e1,e2] at j2
   rw [e2] at hput
   refine cC j2 ?_
   rw [show decide (0<=(file:Int)/\(file:Int)< (fl.length:Int))=true from decide_eq_true ⟨by omega,by omega⟩]
   refine Wk ?_
   rw [show 0+(file:Int).toNat=file by omega,show decide (file< (bA fl).length)=true from decide_eq_true (by rw [aZ];exact h3),hgf]
   refine Wk ?_
   try subst hk
   refine⟨[some 0,some 1,some 2,some 3,some 4],?_,rfl,?_,rfl,?_⟩
   all_goals repeat' (first |exact trivial |rfl |exact .inl rfl |exact .inr rfl |exact id |exact(λh=>Bool.noConfusion h)|refine And.intro ?_ ?_)
   exact hput
 |false=>
  rw [hd] at hput m1
  have n1:=h5.mrk (i:=page) (m:=1) (on:=false) (by decide) h7
  have n2:=h6.mrk (i:=page) (m:=1) (on:=false)
  have j1:=aVD h5 h6 page h4 1 (.inl rfl) h7
  obtain⟨p0,p1,p2,p3,e1⟩:=bB n1
  rw [e,e1] at j1
  refine cC j1 ?_
  rw [hww]
  cases hw:(wr != 0) with
  |true=>
   have j2:=aVC n1 n2 page h4 2 (.inr (.inl rfl)) (by rw [jN];exact h7)
   rw [hw] at hput m1
   obtain⟨r0,r1,r2,r3,e2⟩:=bB m1
   rw [e1,e2] at j2
   rw [e2] at hput
   refine cC j2 ?_
   rw [show decide (0<=(file:Int)/\(file:Int)< (fl.length:Int))=true from decide_eq_true ⟨by omega,by omega⟩]
   refine Wk ?_
   rw [show 0+(file:Int).toNat=file by omega,show decide (file< (bA fl).length)=true from decide_eq_true (by rw [aZ];exact h3),hgf]
   refine Wk ?_
   try subst hk
   refine⟨[some 0,some 1,some 2,some 3,some 4],?_,rfl,?_,rfl,?_⟩
   all_goals repeat' (first |exact trivial |rfl |exact .inl rfl |exact .inr rfl |exact id |exact(λh=>Bool.noConfusion h)|refine And.intro ?_ ?_)
   exact hput
  |false=>
   have j2:=aVD n1 n2 page h4 2 (.inr (.inl rfl)) (by rw [jN];exact h7)
   rw [hw] at hput m1
   obtain⟨r0,r1,r2,r3,e2⟩:=bB m1
   rw [e1,e2] at j2
   rw [e2] at hput
   refine cC j2 ?_
   rw [show decide (0<=(file:Int)/\(file:Int)< (fl.length:Int))=true from decide_eq_true ⟨by omega,by omega⟩]
   refine Wk ?_
   rw [show 0+(file:Int).toNat=file by omega,show decide (file< (bA fl).length)=true from decide_eq_true (by rw [aZ];exact h3),hgf]
   refine Wk ?_
   try subst hk
   refine⟨[some 0,some 1,some 2,some 3,some 4],?_,rfl,?_,rfl,?_⟩
   all_goals repeat' (first |exact trivial |rfl |exact .inl rfl |exact .inr rfl |exact id |exact(λh=>Bool.noConfusion h)|refine And.intro ?_ ?_)
   exact hput
def Dc.setU(c:Dc)(n:Nat)(u:Us):Dc:=⟨c.fl,c.fr.set n (some u),c.zo,c.gr,c.ls,c.ck,c.pt⟩
def Dc.put(c:Dc)(n:Nat)(u:Us):Dc:=(c.setU n u).mark u
theorem aUJ(c:Dc)(n:Nat)(u:Us)(hc:SmD c)(h:jQ (c.setU n u) n u):aM Tryz.prog 155 [] [.agg c.c,.int .i64 ((n+1:Nat):Int),.agg u.c] (.agg (c.put n u).c) []:=by
 have hn:n<c.fr.length:=by have :=h.at_;simpa [Dc.setU] using this
 have hs':SmD (c.setU n u):=⟨hc.fl,by show(c.fr.set n (some u)).length<=64;rw [zF];exact hc.fr,hc.gr,hc.ls,hc.ck⟩
 have k252:=bBO (c.setU n u) n u hs' h
 have k85:=aL1 c hc
 unfold Dc.put
 obtain⟨fl,fr,zo,gr,ls,ck,pt⟩:=c
 have hfr:=hc.fr
 dsimp only at hn hfr
 have hset:(aV fr).set n (aU 9 ((aV fr).getD n []) 0 u.c)=aV (fr.set n (some u)):=by
  rw [cH fr n hn]
  have :aU 9 (frC (fr.getD n none)) 0 u.c=u.c:=by cases fr.getD n none <;> rfl
  rw [this];unfold aV;rw [List.map_set];rfl
 generalize hq:(Dc.setU ⟨fl,fr,zo,gr,ls,ck,pt⟩ n u).mark u=q at k252⊢
 obtain⟨fl2,fr2,zo2,gr2,ls2,ck2,pt2⟩:=q
 unfold Dc.o Dc.ob Dc.setU at k252
 dsimp only at k252
 rw [zF,<-hset] at k252
 refine aF (ob0:= []) [] Tryz.func155 rfl rfl rfl rfl ?_
 refine Wk ?_
 refine .inr ⟨λ_=>⟨[],_,_,_,k85,trivial,rfl,rfl,rfl,?_⟩,(by intro h;cases h)⟩
 refine Wk ?_
 rw [aR (n:=((n+1:Nat):Int)-1) (by omega) (by omega),show((n+1:Nat):Int)-1=(n:Int) by omega,show decide (0<=(n:Int)/\(n:Int)< (fr.length:Int))=true from decide_eq_true ⟨by omega,by omega⟩]
 refine Wk ?_
 rw [show 0+(n:Int).toNat=n by omega,show decide (n< (aV fr).length)=true from decide_eq_true (by rw [bU];exact hn)]
 refine Wk ?_
 refine .inr ⟨λ_=>⟨[3,4,5,6,7],_,_,_,k252,⟨rfl,rfl,rfl,rfl,rfl,trivial⟩,rfl,rfl,rfl,?_⟩,(by intro h;cases h)⟩
 refine Wk ?_
 refine⟨[],trivial,rfl,trivial,rfl,?_⟩
 try subst hk
 repeat' (first |exact trivial |rfl |exact .inl rfl |exact .inr rfl |exact id |exact(λh=>Bool.noConfusion h)|refine And.intro ?_ ?_)
 all_goals first
  |exact cA rfl (aZ _)
  |exact cA rfl (bU _)
  |exact cA rfl (aI _)
  |exact cA rfl (bT _)
  |exact cA rfl (aA _)
  | (rw [aZ];omega)
  | (rw [bU];omega)
  | (rw [aI];omega)
  | (rw [bT];omega)
  | (rw [aA];omega)
  |trace_state
end Go.Proofs.YtmhapcbjjpadnaaGreat
