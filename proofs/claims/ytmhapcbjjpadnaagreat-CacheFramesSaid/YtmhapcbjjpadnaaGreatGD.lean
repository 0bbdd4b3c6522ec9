/- Caches. -/
import Derived.Test.YtmhapcbjjpadnaaGreatG8
import Derived.Test.YtmhapcbjjpadnaaGreatG7
import Derived.Test.YtmhapcbjjpadnaaGreatG9
import Derived.Test.YtmhapcbjjpadnaaGreatGB
set_option linter.unusedSimpArgs false
set_option linter.unusedVariables false
open Bool renaming cond_false_right→zA,cond_true_left→zC,not_eq_false'→zE,not_eq_true'→zF,not_not→zG,false_or→zJ
open Int renaming toNat_natCast→zI
open List renaming length_set→zD,getD_eq_getElem?_getD→zH
open Nat renaming le_refl→zK
set_option maxRecDepth 40000
namespace Go.Proofs.YtmhapcbjjpadnaaGreat
open Go Go.Sk Go.RowKit
def eF(s:Int):Int×Bool:=bif decide (0≤s)||decide (s< -1000001) then(0,false) else(-s-1,true)
def pQ(c s:Int):Int×Int:=bif (bif !(eF s).2 then true else decide (c≤(eF s).1)) then(0,1) else(c- (eF s).1,0)
def aL3(c s n:Int):Bool:=bif (pQ c s).2==0 then decide ((pQ c s).1≤n) else false
theorem aG3 {s:Int} (h:(eF s).2=true):0≤(eF s).1∧(eF s).1≤1000000:=by
 revert h
 unfold eF
 cases h:(decide (0≤s)||decide (s< -1000001)) with
 |true=>intro h;cases h
 |false=>
  intro _
  simp only [cond_false]
  by_cases h1:0≤s
  ·rw [decide_eq_true h1] at h;cases h
  ·rw [decide_eq_false h1,zJ,decide_eq_false_iff_not] at h
   omega
theorem aZR(c:Int)(h0:0≤c)(h1:c≤1000000):aN Tryz.prog 243 [] [.int .i64 c] (.bool true) []:=by
 refine aF (ob0:= []) [] Tryz.func243 rfl rfl rfl rfl ?_
 refine Wk ?_
 rw [show decide ((0:Int)≤c)=true from decide_eq_true h0,show decide (c≤1000000)=true from decide_eq_true h1]
 try subst hk
 exact Lf
theorem bJO(c:Int)(h0:0≤c)(h1:c≤1000000):aN Tryz.prog 71 [] [.int .i64 c] (.tup [.int .i64 (0- (c+1)),.int .i64 0]) []:=by
 refine aF (ob0:= []) [] Tryz.func71 rfl rfl rfl rfl ?_
 refine Wk ?_
 rw [show decide (c<0)=false from decide_eq_false (by omega),show decide ((1000000:Int)<c)=false from decide_eq_false (by omega)]
 refine Wk ?_
 rw [aO (n:=c+1) (by omega) (by omega),aO (n:=0- (c+1)) (by omega) (by omega)]
 try subst hk
 exact Lf
theorem bFE(c:Int)(h0:0≤c)(h1:c≤1000000):aN Tryz.prog 152 [] [.int .i64 c] (.tup [.int .i64 (0- (c+1)),.int .i64 0]) []:=by
 refine aF (ob0:= []) [] Tryz.func152 rfl rfl rfl rfl ?_
 refine cC (aZR c h0 h1) ?_
 rw [aO (n:=c+1) (by omega) (by omega),aO (n:=0- (c+1)) (by omega) (by omega)]
 try subst hk
 exact Lf
theorem bGA(s:Int):aN Tryz.prog 280 [] [.int .i64 s] (.tup [.int .i64 (eF s).1,.bool (eF s).2]) []:=by
 generalize hk:eF s=q
 unfold eF at hk
 refine aF (ob0:= []) [] Tryz.func280 rfl rfl rfl rfl ?_
 refine Wk ?_
 refine aC (fun c1=>?_) (fun c1=>?_)<;> try simp only [zC,zA,zF,zE,zG] at c1
 ·rw [c1,cond_true] at hk
  subst hk
  refine Wk ?_
  try subst hk
  exact Lf
 have c2:0-s-1= -s-1∧-(1000001:Int)≤s∧s≤0:=by
  by_cases h1:0≤s
  ·rw [decide_eq_true h1] at c1;cases c1
  ·rw [decide_eq_false h1,zJ,decide_eq_false_iff_not] at c1;omega
 obtain⟨c2,c3,c4⟩:=c2
 rw [c1,cond_false] at hk
 subst hk
 refine Wk ?_
 rw [aO (n:=0-s) (by omega) (by omega),aO (n:=0-s-1) (by omega) (by omega),c2]
 try subst hk
 exact Lf
theorem bGU(s:Int):aN Tryz.prog 348 [] [.int .i64 s] (.tup [.int .i64 (eF s).1,.bool (eF s).2]) []:=by
 generalize hk:eF s=q
 unfold eF at hk
 refine aF (ob0:= []) [] Tryz.func348 rfl rfl rfl rfl ?_
 refine Wk ?_
 refine aC (fun c1=>?_) (fun c1=>?_)<;> try simp only [zC,zA,zF,zE,zG] at c1
 ·rw [c1,cond_true] at hk
  subst hk
  refine Wk ?_
  try subst hk
  exact Lf
 have c2:0-s-1= -s-1∧-(1000001:Int)≤s∧s≤0:=by
  by_cases h1:0≤s
  ·rw [decide_eq_true h1] at c1;cases c1
  ·rw [decide_eq_false h1,zJ,decide_eq_false_iff_not] at c1;omega
 obtain⟨c2,c3,c4⟩:=c2
 rw [c1,cond_false] at hk
 subst hk
 refine Wk ?_
 rw [aO (n:=0-s) (by omega) (by omega),aO (n:=0-s-1) (by omega) (by omega),c2]
 try subst hk
 exact Lf
theorem call348:fW Tryz.prog 348:=⟨_,Tryz.func348,rfl,rfl⟩
theorem bGK(s:Int):aN Tryz.prog 315 [] [.int .i64 s] (.tup [.int .i64 (eF s).1,.bool (eF s).2]) []:=by
 have k348:=bGU s
 generalize(eF s).1=a at k348⊢
 generalize(eF s).2=b at k348⊢
 refine aF (ob0:= []) [] Tryz.func315 rfl rfl rfl rfl ?_
 refine Wk ?_
 refine⟨call348,?_⟩
 refine cC k348 ?_
 try subst hk
 exact Lf
theorem bFM(c s:Int)(h0:0≤c)(h1:c≤1000000):aN Tryz.prog 179 [] [.int .i64 c,.int .i64 s] (.tup [.int .i64 (pQ c s).1,.int .i64 (pQ c s).2]) []:=by
 generalize hk:pQ c s=q
 unfold pQ at hk
 have k280:=bGA s
 have hb:=aG3 (s:=s)
 generalize(eF s).1=t at k280 hb hk
 generalize(eF s).2=o at k280 hb hk
 generalize hw:(bif !o then true else decide (c≤t))=w at hk
 refine aF (ob0:= []) [] Tryz.func179 rfl rfl rfl rfl ?_
 refine Wk ?_
 rw [show decide (c<0)=false from decide_eq_false (by omega),show decide ((1000000:Int)<c)=false from decide_eq_false (by omega)]
 refine cC k280 ?_
 rw [show(bif !o then true else decide (c≤t))=w from hw]
 cases w with
 |true=>
  rw [cond_true] at hk
  subst hk
  refine Wk ?_
  try subst hk
  exact Lf
 |false=>
  rw [cond_false] at hk
  subst hk
  have h3:=hb (by cases o;cases hw;rfl)
  refine Wk ?_
  rw [aO (n:=c-t) (by omega) (by omega)]
  try subst hk
  exact Lf
theorem bFW(c s:Int)(h0:0≤c)(h1:c≤1000000):aN Tryz.prog 242 [] [.int .i64 c,.int .i64 s] (.tup [.int .i64 (pQ c s).1,.int .i64 (pQ c s).2]) []:=by
 generalize hk:pQ c s=q
 unfold pQ at hk
 have k315:=bGK s
 have hb:=aG3 (s:=s)
 generalize(eF s).1=t at k315 hb hk
 generalize(eF s).2=o at k315 hb hk
 generalize hw:(bif !o then true else decide (c≤t))=w at hk
 refine aF (ob0:= []) [] Tryz.func242 rfl rfl rfl rfl ?_
 refine vJ (aZR c h0 h1) k315 ?_
 rw [show(bif !o then true else decide (c≤t))=w from hw]
 cases w with
 |true=>
  rw [cond_true] at hk
  subst hk
  refine Wk ?_
  try subst hk
  exact Lf
 |false=>
  rw [cond_false] at hk
  subst hk
  have h3:=hb (by cases o;cases hw;rfl)
  refine Wk ?_
  rw [aO (n:=c-t) (by omega) (by omega)]
  try subst hk
  exact Lf
theorem bJP(c s n:Int)(h0:0≤c)(h1:c≤1000000):aN Tryz.prog 72 [] [.int .i64 c,.int .i64 s,.int .i64 n] (.bool (aL3 c s n)) []:=by
 have k:=bFM c s h0 h1
 unfold aL3
 generalize pQ c s=q at k⊢
 refine aF (ob0:= []) [] Tryz.func72 rfl rfl rfl rfl ?_
 refine cC k ?_
 try subst hk
 exact Lf
theorem bFC(c s n:Int)(h0:0≤c)(h1:c≤1000000):aN Tryz.prog 150 [] [.int .i64 c,.int .i64 s,.int .i64 n] (.bool (aL3 c s n)) []:=by
 have k:=bFW c s h0 h1
 unfold aL3
 generalize pQ c s=q at k⊢
 refine aF (ob0:= []) [] Tryz.func150 rfl rfl rfl rfl ?_
 refine cC k ?_
 try subst hk
 exact Lf
end Go.Proofs.YtmhapcbjjpadnaaGreat
set_option maxRecDepth 40000
namespace Go.Proofs.YtmhapcbjjpadnaaGreat
open Go Go.Sk Go.RowKit
def aIM(g:List Gr)(t:Nat)(n:Int):List Gr:=g.set t ⟨(g.getD t g0).lim,(g.getD t g0).pro,n⟩
theorem qL(g:List Gr)(t:Nat)(n:Int):(aIM g t n).length=g.length:=zD ..
theorem vV {g:List Gr} (h:qE g=true) {t:Nat} (ht:t<g.length):(1≤(g.getD t g0).lim∧(g.getD t g0).lim≤64)∧0≤(g.getD t g0).chg∧(g.getD t g0).chg≤64:=by
 simp only [qE,Bool.and_eq_true] at h
 have hb:=kE h.1 ht
 unfold nK at hb
 simp only [aIG,Bool.or_eq_false_iff,decide_eq_false_iff_not] at hb
 omega
theorem aHG(g:List Gr)(t:Nat)(n:Int)(h:t<g.length):(bE g).set t (aQ 3 ((bE g).getD t []) 2 [.int .i64 n])=bE (aIM g t n):=by
 have e:(bE g).getD t []=(g.getD t g0).c:=by have :=eW g t h;rwa [zI] at this
 rw [aIM,e,←aQM];rfl
theorem aZJ(g:List Gr)(t:Nat)(n:Int)(ht:t<g.length)(hl:g.length≤100000):aN Tryz.prog 215 [] [.lst 3 false (bE g),.int .i64 (t:Int),.int .i64 n] (.lst 3 false (bE (aIM g t n))) []:=by
 refine aF (ob0:= []) [] Tryz.func215 rfl rfl rfl rfl ?_
 refine Wk ?_
 refine bA (by rw [aI];omega) (by rw [aI];omega) ?_
 refine Wk ?_
 rw [aI,show decide (0≤(t:Int)∧(t:Int)< (g.length:Int))=true from decide_eq_true ⟨by omega,by omega⟩]
 refine Wk ?_
 rw [show 0+(t:Int).toNat=t by omega,show decide (t< (bE g).length)=true from decide_eq_true (by rw [aI];exact ht)]
 refine Wk ?_
 refine⟨[],trivial,rfl,trivial,rfl,?_⟩
 try subst hk
 repeat' (first |exact trivial |rfl |exact .inl rfl |exact .inr rfl |exact id |exact(fun h=>Bool.noConfusion h)|refine And.intro ?_ ?_)
 ·rw [zD,aI];omega
 ·exact bW (aHG g t n ht) (by rw [zD,aI])
def cA(g:List Gr)(t:Nat):List Gr×Int:=bif decide ((g.getD t g0).lim- (g.getD t g0).chg<1) then(g,3) else(aIM g t ((g.getD t g0).chg+1),0)
def fP(g:List Gr)(t:Nat):List Gr×Int:=bif decide ((g.getD t g0).chg<1) then(g,4) else(aIM g t ((g.getD t g0).chg-1),0)
theorem bEY(g:List Gr)(t:Nat)(ht:t<g.length)(hg:qE g=true):aN Tryz.prog 116 [] [.lst 3 false (bE g),.int .i64 (t:Int),.int .i64 1] (.tup [.lst 3 false (bE (cA g t).1),.int .i64 (cA g t).2]) []:=by
 have hl:=(oV hg).2
 have k112:=aT0 g false (by omega)
 rw [hg] at k112
 obtain⟨h1,h2⟩:=vV hg ht
 have hget:=eW g t ht
 have k215:=aZJ g t ((g.getD t g0).chg+1) ht (by omega)
 generalize hk:cA g t=q
 unfold cA at hk
 generalize g.getD t g0=x at h1 h2 hget k215 hk
 refine aF (ob0:= []) [] Tryz.func116 rfl rfl rfl rfl ?_
 refine cC k112 ?_
 rw [aI,show decide ((t:Int)<0)=false from decide_eq_false (by omega),show decide ((g.length:Int)≤(t:Int))=false from decide_eq_false (by omega)]
 refine Wk ?_
 first |refine aB (⟨rfl,by omega,by rw [aI];omega⟩) ?_ |refine aH (fun _=>⟨rfl,by omega,by rw [aI];omega⟩) ?_ |refine⟨fun _=>⟨rfl,by omega,by rw [aI];omega⟩,?_⟩
 rw [hget]
 refine Wk ?_
 first |refine aB (⟨rfl,by omega,by rw [aI];omega⟩) ?_ |refine aH (fun _=>⟨rfl,by omega,by rw [aI];omega⟩) ?_ |refine⟨fun _=>⟨rfl,by omega,by rw [aI];omega⟩,?_⟩
 rw [hget]
 refine Wk ?_
 rw [aO (n:=x.lim-x.chg) (by omega) (by omega)]
 refine aC (fun c1=>?_) (fun c1=>?_)<;> try simp only [zC,zA,zF,zE,zG] at c1
 ·rw [c1,cond_true] at hk
  subst hk
  refine Wk ?_
  try subst hk
  exact Lf
 rw [c1,cond_false] at hk
 subst hk
 refine Wk ?_
 first |refine aB (⟨rfl,by omega,by rw [aI];omega⟩) ?_ |refine aH (fun _=>⟨rfl,by omega,by rw [aI];omega⟩) ?_ |refine⟨fun _=>⟨rfl,by omega,by rw [aI];omega⟩,?_⟩
 rw [hget]
 refine Wk ?_
 rw [aO (n:=x.chg+1) (by omega) (by omega)]
 refine cC k215 ?_
 try subst hk
 exact Lf
theorem bG1(g:List Gr)(t:Nat)(ht:t<g.length)(hg:qE g=true):aN Tryz.prog 250 [] [.lst 3 false (bE g),.int .i64 (t:Int),.int .i64 1] (.tup [.lst 3 false (bE (fP g t).1),.int .i64 (fP g t).2]) []:=by
 have hl:=(oV hg).2
 have k112:=aT0 g false (by omega)
 rw [hg] at k112
 obtain⟨h1,h2⟩:=vV hg ht
 have hget:=eW g t ht
 have k215:=aZJ g t ((g.getD t g0).chg-1) ht (by omega)
 generalize hk:fP g t=q
 unfold fP at hk
 generalize g.getD t g0=x at h1 h2 hget k215 hk
 refine aF (ob0:= []) [] Tryz.func250 rfl rfl rfl rfl ?_
 refine cC k112 ?_
 rw [aI,show decide ((t:Int)<0)=false from decide_eq_false (by omega),show decide ((g.length:Int)≤(t:Int))=false from decide_eq_false (by omega)]
 refine Wk ?_
 first |refine aB (⟨rfl,by omega,by rw [aI];omega⟩) ?_ |refine aH (fun _=>⟨rfl,by omega,by rw [aI];omega⟩) ?_ |refine⟨fun _=>⟨rfl,by omega,by rw [aI];omega⟩,?_⟩
 rw [hget]
 refine Wk ?_
 refine aC (fun c1=>?_) (fun c1=>?_)<;> try simp only [zC,zA,zF,zE,zG] at c1
 ·rw [c1,cond_true] at hk
  subst hk
  refine Wk ?_
  try subst hk
  exact Lf
 rw [c1,cond_false] at hk
 subst hk
 refine Wk ?_
 first |refine aB (⟨rfl,by omega,by rw [aI];omega⟩) ?_ |refine aH (fun _=>⟨rfl,by omega,by rw [aI];omega⟩) ?_ |refine⟨fun _=>⟨rfl,by omega,by rw [aI];omega⟩,?_⟩
 rw [hget]
 refine Wk ?_
 rw [aO (n:=x.chg-1) (by omega) (by omega)]
 refine cC k215 ?_
 try subst hk
 exact Lf
theorem aZP(g:List Gr)(t:Nat)(ht:t<g.length)(hg:qE g=true):aN Tryz.prog 234 [] [.lst 3 false (bE g),.int .i64 (t:Int),.int .i64 1] (.int .i64 0) []:=by
 have hl:=(oV hg).2
 have k129:=bF5 g false (by omega)
 rw [hg] at k129
 refine aF (ob0:= []) [] Tryz.func234 rfl rfl rfl rfl ?_
 refine cC k129 ?_
 rw [aI,show decide ((t:Int)<0)=false from decide_eq_false (by omega),show decide ((g.length:Int)≤(t:Int))=false from decide_eq_false (by omega)]
 refine Wk ?_
 try subst hk
 exact Lf
theorem bF8(g:List Gr)(t:Nat)(ht:t<g.length)(hg:qE g=true):aN Tryz.prog 142 [] [.lst 3 false (bE g),.int .i64 (t:Int),.int .i64 1] (.tup [.lst 3 false (bE (cA g t).1),.int .i64 (cA g t).2]) []:=by
 have hl:=(oV hg).2
 have k234:=aZP g t ht hg
 obtain⟨h1,h2⟩:=vV hg ht
 have hget:=eW g t ht
 have hgn:(bE g).getD t []=(g.getD t g0).c:=by rwa [zI] at hget
 have hput:=fun n=>aHG g t n ht
 have k188:=aNU (bE g) false (by rw [aI];omega)
 generalize hk:cA g t=q
 unfold cA at hk
 rw [hgn] at hput
 generalize g.getD t g0=x at h1 h2 hget hgn hput hk
 refine aF (ob0:= []) [] Tryz.func142 rfl rfl rfl rfl ?_
 refine Wk ?_
 refine .inr ⟨fun _=>⟨[],_,_,_,k188,trivial,rfl,rfl,rfl,?_⟩,(by intro h;cases h)⟩
 refine cC k234 ?_
 first |refine aB (⟨rfl,by omega,by rw [aI];omega⟩) ?_ |refine aH (fun _=>⟨rfl,by omega,by rw [aI];omega⟩) ?_ |refine⟨fun _=>⟨rfl,by omega,by rw [aI];omega⟩,?_⟩
 rw [hget]
 refine Wk ?_
 first |refine aB (⟨rfl,by omega,by rw [aI];omega⟩) ?_ |refine aH (fun _=>⟨rfl,by omega,by rw [aI];omega⟩) ?_ |refine⟨fun _=>⟨rfl,by omega,by rw [aI];omega⟩,?_⟩
 rw [hget]
 refine Wk ?_
 rw [aO (n:=x.lim-x.chg) (by omega) (by omega)]
 refine aC (fun c1=>?_) (fun c1=>?_)<;> try simp only [zC,zA,zF,zE,zG] at c1
 ·rw [c1,cond_true] at hk
  subst hk
  refine Wk ?_
  refine⟨[],trivial,rfl,trivial,rfl,?_⟩
  try subst hk
  repeat' (first |exact trivial |rfl |exact .inl rfl |exact .inr rfl |exact id |exact(fun h=>Bool.noConfusion h)|refine And.intro ?_ ?_)
  ·omega
  ·exact bW rfl rfl
 rw [c1,cond_false] at hk
 subst hk
 refine Wk ?_
 rw [aI,show decide (0≤(t:Int)∧(t:Int)< (g.length:Int))=true from decide_eq_true ⟨by omega,by omega⟩]
 refine Wk ?_
 rw [show 0+(t:Int).toNat=t by omega,show decide (t< (bE g).length)=true from decide_eq_true (by rw [aI];exact ht),hgn]
 refine Wk ?_
 rw [aO (n:=x.chg+1) (by omega) (by omega)]
 refine Wk ?_
 rw [show decide (0≤(t:Int)∧(t:Int)< (g.length:Int))=true from decide_eq_true ⟨by omega,by omega⟩]
 refine Wk ?_
 rw [show 0+(t:Int).toNat=t by omega,show decide (t< (bE g).length)=true from decide_eq_true (by rw [aI];exact ht),hgn]
 refine Wk ?_
 refine⟨[],trivial,rfl,trivial,rfl,?_⟩
 try subst hk
 repeat' (first |exact trivial |rfl |exact .inl rfl |exact .inr rfl |exact id |exact(fun h=>Bool.noConfusion h)|refine And.intro ?_ ?_)
 ·rw [zD,aI];omega
 ·exact bW (hput _) (by rw [zD,aI])
theorem bFY(g:List Gr)(t:Nat)(ht:t<g.length)(hg:qE g=true):aN Tryz.prog 246 [] [.lst 3 false (bE g),.int .i64 (t:Int),.int .i64 1] (.tup [.lst 3 false (bE (fP g t).1),.int .i64 (fP g t).2]) []:=by
 have hl:=(oV hg).2
 have k234:=aZP g t ht hg
 obtain⟨h1,h2⟩:=vV hg ht
 have hget:=eW g t ht
 have hgn:(bE g).getD t []=(g.getD t g0).c:=by rwa [zI] at hget
 have hput:=fun n=>aHG g t n ht
 have k188:=aNU (bE g) false (by rw [aI];omega)
 generalize hk:fP g t=q
 unfold fP at hk
 rw [hgn] at hput
 generalize g.getD t g0=x at h1 h2 hget hgn hput hk
 refine aF (ob0:= []) [] Tryz.func246 rfl rfl rfl rfl ?_
 refine Wk ?_
 refine .inr ⟨fun _=>⟨[],_,_,_,k188,trivial,rfl,rfl,rfl,?_⟩,(by intro h;cases h)⟩
 refine cC k234 ?_
 first |refine aB (⟨rfl,by omega,by rw [aI];omega⟩) ?_ |refine aH (fun _=>⟨rfl,by omega,by rw [aI];omega⟩) ?_ |refine⟨fun _=>⟨rfl,by omega,by rw [aI];omega⟩,?_⟩
 rw [hget]
 refine Wk ?_
 refine aC (fun c1=>?_) (fun c1=>?_)<;> try simp only [zC,zA,zF,zE,zG] at c1
 ·rw [c1,cond_true] at hk
  subst hk
  refine Wk ?_
  refine⟨[],trivial,rfl,trivial,rfl,?_⟩
  try subst hk
  repeat' (first |exact trivial |rfl |exact .inl rfl |exact .inr rfl |exact id |exact(fun h=>Bool.noConfusion h)|refine And.intro ?_ ?_)
  ·omega
  ·exact bW rfl rfl
 rw [c1,cond_false] at hk
 subst hk
 refine Wk ?_
 rw [aI,show decide (0≤(t:Int)∧(t:Int)< (g.length:Int))=true from decide_eq_true ⟨by omega,by omega⟩]
 refine Wk ?_
 rw [show 0+(t:Int).toNat=t by omega,show decide (t< (bE g).length)=true from decide_eq_true (by rw [aI];exact ht),hgn]
 refine Wk ?_
 rw [aO (n:=x.chg-1) (by omega) (by omega)]
 refine Wk ?_
 rw [show decide (0≤(t:Int)∧(t:Int)< (g.length:Int))=true from decide_eq_true ⟨by omega,by omega⟩]
 refine Wk ?_
 rw [show 0+(t:Int).toNat=t by omega,show decide (t< (bE g).length)=true from decide_eq_true (by rw [aI];exact ht),hgn]
 refine Wk ?_
 refine⟨[],trivial,rfl,trivial,rfl,?_⟩
 try subst hk
 repeat' (first |exact trivial |rfl |exact .inl rfl |exact .inr rfl |exact id |exact(fun h=>Bool.noConfusion h)|refine And.intro ?_ ?_)
 ·rw [zD,aI];omega
 ·exact bW (hput _) (by rw [zD,aI])
end Go.Proofs.YtmhapcbjjpadnaaGreat
set_option maxRecDepth 40000
namespace Go.Proofs.YtmhapcbjjpadnaaGreat
open Go Go.Sk Go.RowKit
structure Pg where
 b:ByteArray
 v:Nat
 d:Nat
def Pg.c(p:Pg):List V:= [.str p.b,.int .i64 (p.v:Int),.int .i64 (p.d:Int)]
structure eA(p:Pg):Prop where
 size:p.b.size=16
 v:p.v<4
 d:p.d<4
 sub:jE false p.d p.v=0
def z16:ByteArray:=⟨#[0,0,0,0,0,0,0,0,0,0,0,0,0,0,0,0]⟩
theorem vK {x y:Nat} (hx:x<8)(hy:y<8):eX .and .i64 (x:Int) (y:Int)=((x &&& y:Nat):Int):=by
 have key:∀a:Fin 8,∀b:Fin 8,eX .and .i64 (a.val:Int) (b.val:Int)=((a.val &&& b.val:Nat):Int):=by decide
 exact key ⟨x,hx⟩ ⟨y,hy⟩
theorem bF1:aN Tryz.prog 120 [] [] (.agg (Pg.mk z16 0 0).c) []:=run_eq E1 40 (by kernel_rfl)
theorem bF2:aN Tryz.prog 122 [] [] (.agg (Pg.mk z16 3 0).c) []:=run_eq E1 40 (by kernel_rfl)
theorem aNW(p:Pg)(h:eA p):aN Tryz.prog 260 [] [.agg p.c] (.bool true) []:=by
 obtain⟨b,v,d⟩:=p
 obtain⟨h1,h2,h3,h4⟩:=h
 dsimp only at h1 h2 h3 h4
 have h4':=fC (x:=d) (y:=v) (by omega) (by omega)
 rw [h4] at h4'
 show aN Tryz.prog 260 [] [.agg [.str b,.int .i64 (v:Int),.int .i64 (d:Int)]] (.bool true) []
 refine aF (ob0:= []) [] Tryz.func260 rfl rfl rfl rfl ?_
 refine Wk ?_
 rw [h4',show((b.size:Int)==16)=true from beq_iff_eq.2 (by omega),show decide ((0:Int)≤(v:Int))=true from decide_eq_true (by omega),show decide ((v:Int)≤3)=true from decide_eq_true (by omega),show decide ((0:Int)≤(d:Int))=true from decide_eq_true (by omega),show decide ((d:Int)≤3)=true from decide_eq_true (by omega)]
 try subst hk
 exact Lf
theorem aTQ(s:Nat)(hs:s<4):aN Tryz.prog 253 [] [.int .i64 (s:Int)] (.bool true) []:=by
 refine aF (ob0:= []) [] Tryz.func253 rfl rfl rfl rfl ?_
 refine Wk ?_
 rw [show decide ((0:Int)≤(s:Int))=true from decide_eq_true (by omega),show decide ((s:Int)≤3)=true from decide_eq_true (by omega)]
 try subst hk
 exact Lf
theorem bFT(p:Pg)(h:eA p):aN Tryz.prog 233 [] [.agg p.c] (.bool true) []:=by
 obtain⟨b,v,d⟩:=p
 obtain⟨h1,h2,h3,h4⟩:=h
 dsimp only at h1 h2 h3 h4
 have h4':=fC (x:=d) (y:=v) (by omega) (by omega)
 rw [h4] at h4'
 show aN Tryz.prog 233 [] [.agg [.str b,.int .i64 (v:Int),.int .i64 (d:Int)]] (.bool true) []
 refine aF (ob0:= []) [] Tryz.func233 rfl rfl rfl rfl ?_
 refine vJ (aTQ v h2) (aTQ d h3) ?_
 rw [h4',show((b.size:Int)==16)=true from beq_iff_eq.2 (by omega)]
 try subst hk
 exact Lf
def aBC(p:Pg)(s:Nat):Pg:=⟨p.b,p.v,p.d ||| (s &&& p.v)⟩
def aLE(p:Pg)(s:Nat):Pg:=⟨p.b,p.v,jE false p.d s⟩
theorem aT7(p:Pg)(h:eA p)(s:Nat)(hs:s<4):aN Tryz.prog 176 [] [.agg p.c,.int .i64 (s:Int)] (.tup [.agg (aBC p s).c,.int .i64 0]) []:=by
 have k260:=aNW p h
 obtain⟨b,v,d⟩:=p
 obtain⟨h1,h2,h3,h4⟩:=h
 dsimp only at h1 h2 h3 h4
 show aN Tryz.prog 176 [] [.agg [.str b,.int .i64 (v:Int),.int .i64 (d:Int)],.int .i64 (s:Int)] (.tup [.agg [.str b,.int .i64 (v:Int),.int .i64 ((d ||| (s &&& v):Nat):Int)],.int .i64 0]) []
 refine aF (ob0:= []) [] Tryz.func176 rfl rfl rfl rfl ?_
 refine cC k260 ?_
 rw [show decide ((s:Int)<0)=false from decide_eq_false (by omega),show decide ((3:Int)< (s:Int))=false from decide_eq_false (by omega)]
 refine Wk ?_
 rw [vK (x:=s) (y:=v) (by omega) (by omega),eM (x:=d) (y:=s &&& v) (by omega) (by have :=Nat.and_le_right (n:=s) (m:=v);omega)]
 try subst hk
 exact Lf
theorem bG8(p:Pg)(h:eA p)(s:Nat)(hs:s<4):aN Tryz.prog 278 [] [.agg p.c,.int .i64 (s:Int)] (.tup [.agg (aLE p s).c,.int .i64 0]) []:=by
 have k260:=aNW p h
 obtain⟨b,v,d⟩:=p
 obtain⟨h1,h2,h3,h4⟩:=h
 dsimp only at h1 h2 h3 h4
 show aN Tryz.prog 278 [] [.agg [.str b,.int .i64 (v:Int),.int .i64 (d:Int)],.int .i64 (s:Int)] (.tup [.agg [.str b,.int .i64 (v:Int),.int .i64 ((jE false d s:Nat):Int)],.int .i64 0]) []
 refine aF (ob0:= []) [] Tryz.func278 rfl rfl rfl rfl ?_
 refine cC k260 ?_
 rw [show decide ((s:Int)<0)=false from decide_eq_false (by omega),show decide ((3:Int)< (s:Int))=false from decide_eq_false (by omega)]
 refine Wk ?_
 rw [fC (x:=d) (y:=s) (by omega) (by omega)]
 try subst hk
 exact Lf
theorem vA {p:Pg} (h:eA p) {s:Nat} (hs:s<4):eA (aBC p s):=by
 have key:∀v d s:Fin 4,jE false d.val v.val=0→(d.val ||| (s.val &&& v.val))<4∧jE false (d.val ||| (s.val &&& v.val)) v.val=0:=by decide
 obtain⟨h5,h6⟩:=key ⟨p.v,h.v⟩ ⟨p.d,h.d⟩ ⟨s,hs⟩ h.sub
 exact⟨h.size,h.v,h5,h6⟩
theorem aEU {p:Pg} (h:eA p) {s:Nat} (hs:s<4):eA (aLE p s):=by
 have key:∀v d s:Fin 4,jE false d.val v.val=0→jE false d.val s.val<4∧jE false (jE false d.val s.val) v.val=0:=by decide
 obtain⟨h5,h6⟩:=key ⟨p.v,h.v⟩ ⟨p.d,h.d⟩ ⟨s,hs⟩ h.sub
 exact⟨h.size,h.v,h5,h6⟩
theorem bF9:aN Tryz.prog 144 [] [] (.agg (Pg.mk z16 0 0).c) []:=run_eq E1 40 (by kernel_rfl)
theorem bFB:aN Tryz.prog 146 [] [] (.agg (Pg.mk z16 3 0).c) []:=run_eq E1 40 (by kernel_rfl)
end Go.Proofs.YtmhapcbjjpadnaaGreat
set_option maxRecDepth 40000
namespace Go.Proofs.YtmhapcbjjpadnaaGreat
open Go Go.Sk Go.RowKit
def aBP(off n a:Nat):Nat→Nat
 |0=>0
 |j+1=>aBP off n a j+bif decide (off≤a+j)&&decide (a+j<off+n) then 1 else 0
def aI0(off n:Nat):Nat→Nat
 |0=>0
 |k+1=>bif decide (0<aBP off n (k*8) 8) then aI0 off n k ||| 2^k else aI0 off n k
def aGI(off n:Nat):Nat→Nat
 |0=>0
 |k+1=>bif aBP off n (k*8) 8==8 then aGI off n k ||| 2^k else aGI off n k
def tch(off n:Nat):Nat:=aI0 off n 2
def cov(off n:Nat):Nat:=aGI off n 2
theorem aN5(off n a:Nat):∀j,aBP off n a j≤j
 |0=>zK 0
 |j+1=>by
  have :=aN5 off n a j
  rw [aBP];cases(decide (off≤a+j)&&decide (a+j<off+n))<;> simp <;> omega
theorem aCC(off n:Nat) {k:Nat} (hk:k≤2):aI0 off n k<4∧aGI off n k<4:=by
 have key:∀x y:Bool,(bif y then(bif x then 0 ||| 2^0 else 0)||| 2^1 else(bif x then 0 ||| 2^0 else 0))<4:=by decide
 have key1:∀x:Bool,(bif x then 0 ||| 2^0 else 0)<4:=by decide
 match k,hk with
 |0,_=>exact⟨by show 0<4;decide,by show 0<4;decide⟩
 |1,_=>exact⟨key1 _,key1 _⟩
 |2,_=>exact⟨key _ _,key _ _⟩
theorem aUN {k:Nat} (hk:k<2):IntKind.i64.wrap (1*2^min (k:Int).toNat IntKind.i64.bits)=((2^k:Nat):Int):=by
 match k,hk with
 |0,_=>decide
 |1,_=>decide
set_option maxRecDepth 20000 in
theorem aZV(off n:Nat)(h:off+n≤16):aN Tryz.prog 264 [] [.int .i64 (off:Int),.int .i64 (n:Int)] (.tup [.int .i64 (tch off n:Int),.int .i64 (cov off n:Int)]) []:=by
 unfold tch cov
 refine aF (ob0:= []) [] Tryz.func264 rfl rfl rfl rfl ?_
 refine Wk ?_
 refine⟨Nat,fun k=>k≤2,fun k=>⟨[(0,⟨[],true,.int .i64 (off:Int)⟩),(1,⟨[],true,.int .i64 (n:Int)⟩),(6,⟨[],true,.int .i64 (aI0 off n k:Int)⟩),(7,⟨[],true,.int .i64 (aGI off n k:Int)⟩),(8,⟨[],true,.int .i64 (k:Int)⟩)],[],0⟩,fun k=>2-k,⟨0,Nat.zero_le _,?_⟩,fun k hI=>?_⟩
 ·exact Vw []
 dsimp only at hI⊢
 refine Wk ?_
 refine aC (fun b1=>?_) (fun b1=>?_)<;> try simp only [zC,zA,zF,zE,zG] at b1
 ·have b1:k<2:=by simp at b1;omega
  obtain⟨ht,hc⟩:=aCC off n hI
  refine Wk ?_
  rw [aO (n:=(k:Int)*8) (by omega) (by omega),show(k:Int)*8=((k*8+0:Nat):Int) by omega]
  refine Wk ?_
  refine⟨Nat,fun j=>j≤8,fun j=>⟨[(0,⟨[],true,.int .i64 (off:Int)⟩),(1,⟨[],true,.int .i64 (n:Int)⟩),(6,⟨[],true,.int .i64 (aI0 off n k:Int)⟩),(7,⟨[],true,.int .i64 (aGI off n k:Int)⟩),(8,⟨[],true,.int .i64 (k:Int)⟩),(9,⟨[],true,.int .i64 (aBP off n (k*8) j:Int)⟩),(10,⟨[],true,.int .i64 ((k*8+j:Nat):Int)⟩)],[],0⟩,fun j=>8-j,⟨0,Nat.zero_le _,?_⟩,fun j hJ=>?_⟩
  ·exact Vw []
  dsimp only at hJ⊢
  have hcl:=aN5 off n (k*8) j
  refine Wk ?_
  rw [aO (n:=(k:Int)+1) (by omega) (by omega),aO (n:=((k:Int)+1)*8) (by omega) (by omega)]
  refine aC (fun b2=>?_) (fun b2=>?_)<;> try simp only [zC,zA,zF,zE,zG] at b2
  ·have b2:j<8:=by simp at b2;omega
   have hst:aBP off n (k*8) (j+1)=aBP off n (k*8) j+bif decide (off≤k*8+j)&&decide (k*8+j<off+n) then 1 else 0:=rfl
   refine Wk ?_
   rw [aO (n:=(off:Int)+(n:Int)) (by omega) (by omega),show(bif decide ((off:Int)≤((k*8+j:Nat):Int)) then decide (((k*8+j:Nat):Int)< (off:Int)+(n:Int)) else false)=(decide (off≤k*8+j)&&decide (k*8+j<off+n)) by
    rw [show decide ((off:Int)≤((k*8+j:Nat):Int))=decide (off≤k*8+j) from decide_eq_decide.2 (by omega),show decide (((k*8+j:Nat):Int)< (off:Int)+(n:Int))=decide (k*8+j<off+n) from decide_eq_decide.2 (by omega)]
    cases decide (off≤k*8+j)<;> rfl]
   cases hb:(decide (off≤k*8+j)&&decide (k*8+j<off+n)) with
   |true=>
    rw [hb,cond_true] at hst
    refine Wk ?_
    rw [aO (n:=((aBP off n (k*8) j:Nat):Int)+1) (by omega) (by omega),aO (n:=((k*8+j:Nat):Int)+1) (by omega) (by omega)]
    refine⟨j+1,by show j+1≤8;omega,?_,by show 8- (j+1)<8-j;omega⟩
    dsimp only
    rw [hst]
    exact Vw []
   |false=>
    rw [hb,cond_false,Nat.add_zero] at hst
    refine Wk ?_
    rw [aO (n:=((k*8+j:Nat):Int)+1) (by omega) (by omega)]
    refine⟨j+1,by show j+1≤8;omega,?_,by show 8- (j+1)<8-j;omega⟩
    dsimp only
    rw [hst]
    exact Vw []
  have b2:j=8:=by simp at b2;omega
  subst b2
  have e1:aI0 off n (k+1)=bif decide (0<aBP off n (k*8) 8) then aI0 off n k ||| 2^k else aI0 off n k:=rfl
  have e2:aGI off n (k+1)=bif aBP off n (k*8) 8==8 then aGI off n k ||| 2^k else aGI off n k:=rfl
  have h2k:2^k<8:=by
   rcases(show k=0∨k=1 by omega) with rfl |rfl <;> decide
  generalize aBP off n (k*8) 8=c at hcl e1 e2
  refine Wk ?_
  rw [show decide ((0:Int)< (c:Int))=decide (0<c) from decide_eq_decide.2 (by omega)]
  cases h3:decide (0<c) with
  |true=>
   rw [h3,cond_true] at e1
   refine Wk ?_
   rw [aUN b1,eM (by omega) h2k]
   rw [show((c:Int)==8)=(c==8) by cases h4:(c==8) with
    |true=>exact beq_iff_eq.2 (by have :=beq_iff_eq.1 h4;omega)
    |false=>exact beq_eq_false_iff_ne.2 (by have :=beq_eq_false_iff_ne.1 h4;omega)]
   cases h4:(c==8) with
   |true=>
    rw [h4,cond_true] at e2
    refine Wk ?_
    rw [aUN b1,eM (by omega) h2k,dG (by omega)]
    refine⟨k+1,by show k+1≤2;omega,?_,by show 2- (k+1)<2-k;omega⟩
    dsimp only
    rw [e1,e2]
    exact Vw []
   |false=>
    rw [h4,cond_false] at e2
    refine Wk ?_
    rw [dG (by omega)]
    refine⟨k+1,by show k+1≤2;omega,?_,by show 2- (k+1)<2-k;omega⟩
    dsimp only
    rw [e1,e2]
    exact Vw []
  |false=>
   rw [h3,cond_false] at e1
   refine Wk ?_
   rw [show((c:Int)==8)=(c==8) by cases h4:(c==8) with
    |true=>exact beq_iff_eq.2 (by have :=beq_iff_eq.1 h4;omega)
    |false=>exact beq_eq_false_iff_ne.2 (by have :=beq_eq_false_iff_ne.1 h4;omega)]
   cases h4:(c==8) with
   |true=>
    rw [h4,cond_true] at e2
    refine Wk ?_
    rw [aUN b1,eM (by omega) h2k,dG (by omega)]
    refine⟨k+1,by show k+1≤2;omega,?_,by show 2- (k+1)<2-k;omega⟩
    dsimp only
    rw [e1,e2]
    exact Vw []
   |false=>
    rw [h4,cond_false] at e2
    refine Wk ?_
    rw [dG (by omega)]
    refine⟨k+1,by show k+1≤2;omega,?_,by show 2- (k+1)<2-k;omega⟩
    dsimp only
    rw [e1,e2]
    exact Vw []
 have b1:k=2:=by simp at b1;omega
 subst b1
 refine Wk ?_
 try subst hk
 exact Lf
end Go.Proofs.YtmhapcbjjpadnaaGreat
set_option maxRecDepth 40000
namespace Go.Proofs.YtmhapcbjjpadnaaGreat
open Go Go.Sk Go.RowKit
def aB0(p:Pg)(off n:Nat)(w:Bool):Nat:=jE false (bif w then jE false (tch off n) (cov off n) else tch off n) p.v
theorem bG3(off n:Nat)(h:off+n≤16):aN Tryz.prog 263 [] [.int .i64 (off:Int),.int .i64 (n:Int)] (.bool true) []:=by
 refine aF (ob0:= []) [] Tryz.func263 rfl rfl rfl rfl ?_
 refine Wk ?_
 rw [aO (n:=16- (off:Int)) (by omega) (by omega),show decide ((0:Int)≤(off:Int))=true from decide_eq_true (by omega),show decide ((0:Int)≤(n:Int))=true from decide_eq_true (by omega),show decide ((off:Int)≤16)=true from decide_eq_true (by omega),show decide ((n:Int)≤16- (off:Int))=true from decide_eq_true (by omega)]
 try subst hk
 exact Lf
theorem aT6(p:Pg)(h:eA p)(off n:Nat)(hr:off+n≤16)(w:Bool):aN Tryz.prog 164 [] [.agg p.c,.int .i64 (off:Int),.int .i64 (n:Int),.bool w] (.tup [.int .i64 (aB0 p off n w:Int),.int .i64 0]) []:=by
 have k260:=aNW p h
 have k263:=bG3 off n hr
 have k264:=aZV off n hr
 obtain⟨h5,h6⟩:=aCC off n (zK 2)
 have h5:tch off n<4:=h5
 have h6:cov off n<4:=h6
 obtain⟨b,v,d⟩:=p
 obtain⟨h1,h2,h3,h4⟩:=h
 dsimp only at h1 h2 h3 h4
 generalize hk:aB0 ⟨b,v,d⟩ off n w=q
 unfold aB0 at hk
 dsimp only at hk
 generalize tch off n=x at *
 generalize cov off n=y at *
 have h7:jE false x y<8:=aRJ (by omega) (by omega)
 show aN Tryz.prog 164 [] [.agg [.str b,.int .i64 (v:Int),.int .i64 (d:Int)],.int .i64 (off:Int),.int .i64 (n:Int),.bool w] _ []
 refine aF (ob0:= []) [] Tryz.func164 rfl rfl rfl rfl ?_
 refine Wk3 k260 k263 k264 ?_
 cases w with
 |true=>
  refine Wk ?_
  rw [fC (x:=x) (y:=y) (by omega) (by omega)]
  rw [fC h7 (by omega)]
  subst hk
  try subst hk
  exact Lf
 |false=>
  refine Wk ?_
  rw [fC (x:=x) (y:=v) (by omega) (by omega)]
  subst hk
  try subst hk
  exact Lf
end Go.Proofs.YtmhapcbjjpadnaaGreat
set_option maxRecDepth 40000
namespace Go.Proofs.YtmhapcbjjpadnaaGreat
open Go Go.Sk Go.RowKit
def aED(b:ByteArray)(off:Nat)(s:ByteArray):ByteArray:=b.extract 0 off++s++b.extract (off+s.size) b.size
def rQ(p:Pg)(off:Nat)(s:ByteArray):Pg:=⟨aED p.b off s,p.v ||| tch off s.size,p.d ||| tch off s.size⟩
theorem fN(b:ByteArray)(i j:Nat):(b.extract i j).size=min j b.size-i:=by simp [ByteArray.size_extract]
theorem qI(a b:ByteArray):(a++b).size=a.size+b.size:=ByteArray.size_append
theorem aZN(p:Pg)(h:eA p)(off:Nat)(s:ByteArray)(hr:off+s.size≤16)(hn:aB0 p off s.size true=0):aN Tryz.prog 220 [] [.agg p.c,.int .i64 (off:Int),.str s] (.tup [.agg (rQ p off s).c,.int .i64 0]) []:=by
 have k164:=aT6 p h off s.size hr true
 have k264:=aZV off s.size hr
 rw [hn] at k164
 obtain⟨h5,h6⟩:=aCC off s.size (zK 2)
 have h5:tch off s.size<4:=h5
 obtain⟨b,v,d⟩:=p
 obtain⟨h1,h2,h3,h4⟩:=h
 dsimp only at h1 h2 h3 h4
 show aN Tryz.prog 220 [] [.agg [.str b,.int .i64 (v:Int),.int .i64 (d:Int)],.int .i64 (off:Int),.str s] (.tup [.agg [.str (aED b off s),.int .i64 ((v ||| tch off s.size:Nat):Int),.int .i64 ((d ||| tch off s.size:Nat):Int)],.int .i64 0]) []
 generalize tch off s.size=x at *
 refine aF (ob0:= []) [] Tryz.func220 rfl rfl rfl rfl ?_
 refine vJ k164 k264 ?_
 first |refine aB (⟨by omega,by omega,by omega⟩) ?_ |refine aH (fun _=>⟨by omega,by omega,by omega⟩) ?_ |refine⟨fun _=>⟨by omega,by omega,by omega⟩,?_⟩
 refine Wk ?_
 first |refine aB (by rw [fN];omega) ?_ |refine aH (fun _=>by rw [fN];omega) ?_ |refine⟨fun _=>by rw [fN];omega,?_⟩
 refine Wk ?_
 rw [aO (n:=(off:Int)+(s.size:Int)) (by omega) (by omega),show(off:Int)+(s.size:Int)=((off+s.size:Nat):Int) by omega]
 refine Wk ?_
 first |refine aB (⟨by omega,by omega,by omega⟩) ?_ |refine aH (fun _=>⟨by omega,by omega,by omega⟩) ?_ |refine⟨fun _=>⟨by omega,by omega,by omega⟩,?_⟩
 refine Wk ?_
 first |refine aB (by rw [qI,fN,fN];omega) ?_ |refine aH (fun _=>by rw [qI,fN,fN];omega) ?_ |refine⟨fun _=>by rw [qI,fN,fN];omega,?_⟩
 refine Wk ?_
 rw [eM (x:=v) (by omega) (by omega)]
 refine Wk ?_
 rw [eM (x:=d) (by omega) (by omega)]
 refine Wk ?_
 try subst hk
 exact Lf
end Go.Proofs.YtmhapcbjjpadnaaGreat
set_option maxRecDepth 40000
namespace Go.Proofs.YtmhapcbjjpadnaaGreat
open Go Go.Sk Go.RowKit
structure Df where
 dev:Int
 slot:Int
 E:cK
 size:Nat
 blocks:Nat
 ec:Int
 ee:Int
def Df.c(f:Df):List V:= [.int .i64 f.dev,.int .i64 f.slot]++can f.E++ [.int .i64 (f.size:Int),.int .i64 (f.blocks:Int),.int .i64 f.ec,.int .i64 f.ee,.int .i64 0,.int .i64 0,.int .i64 0,.int .i64 0,.int .i64 0]
structure Us where
 file:Nat
 page:Nat
 p:Pg
 ten:Nat
 holds:Nat
 rd:Nat
 wr:Nat
def Us.c(u:Us):List V:= [.int .i64 (u.file:Int),.int .i64 (u.page:Int),.str u.p.b,.int .i64 (u.p.v:Int),.int .i64 (u.p.d:Int),.int .i64 (u.ten:Int),.int .i64 (u.holds:Int),.int .i64 (u.rd:Int),.int .i64 (u.wr:Int)]
def frC(o:Option Us):List V:=match o with
 |none=>fre.c
 |some u=>u.c
structure Dc where
 fl:List Df
 fr:List (Option Us)
 zo:List Zn
 gr:List Gr
 ls:List Ls
 ck:List Int
 pt:List Pt
def bM(L:List Df):List (List V):=L.map Df.c
def aV(L:List (Option Us)):List (List V):=L.map frC
def Dc.c(c:Dc):List V:= [.lst 15 false (bM c.fl),.lst 9 false (aV c.fr),.lst 6 false (aP c.zo),.lst 3 false (bE c.gr),.lst 3 false (bZ c.ls),.lst 1 false (aE c.ck),.lst 5 false (aX c.pt)]
theorem aZ(L:List Df):(bM L).length=L.length:=List.length_map _
theorem bO(L:List (Option Us)):(aV L).length=L.length:=List.length_map _
def Dc.o(c:Dc):List V:= [.sl 0 0 c.fl.length,.sl 1 0 c.fr.length,.lst 6 false (aP c.zo),.sl 2 0 c.gr.length,.sl 3 0 c.ls.length,.sl 4 0 c.ck.length,.lst 5 false (aX c.pt)]
def Dc.ob(c:Dc):List Sk.Obj:= [.row 15 (bM c.fl),.row 9 (aV c.fr),.row 3 (bE c.gr),.row 3 (bZ c.ls),.row 1 (aE c.ck)]
structure SmD(c:Dc):Prop where
 fl:c.fl.length≤8
 fr:c.fr.length≤64
 gr:c.gr.length≤4
 ls:c.ls.length≤4
 ck:c.ck.length≤4
set_option maxRecDepth 20000 in
theorem aJZ(c:Dc)(h:SmD c):aN Tryz.prog 85 [] [.agg c.c] (.agg c.o) c.ob:=by
 obtain⟨fl,fr,zo,gr,ls,ck,pt⟩:=c
 obtain⟨h1,h2,h3,h4,h5⟩:=h
 dsimp only at h1 h2 h3 h4 h5
 show aN Tryz.prog 85 [] [.agg [.lst 15 false (bM fl),.lst 9 false (aV fr),.lst 6 false (aP zo),.lst 3 false (bE gr),.lst 3 false (bZ ls),.lst 1 false (aE ck),.lst 5 false (aX pt)]]
  (.agg [.sl 0 0 fl.length,.sl 1 0 fr.length,.lst 6 false (aP zo),.sl 2 0 gr.length,.sl 3 0 ls.length,.sl 4 0 ck.length,.lst 5 false (aX pt)]) [.row 15 (bM fl),.row 9 (aV fr),.row 3 (bE gr),.row 3 (bZ ls),.row 1 (aE ck)]
 refine aF (ob0:= []) [] Tryz.func85 rfl rfl rfl rfl ?_
 refine Wk ?_
 refine bA (by rw [aZ];omega) (by rw [aZ];omega) ?_
 refine Wk ?_
 refine bA (by rw [bO];omega) (by rw [bO];omega) ?_
 refine Wk ?_
 refine bA (by rw [aI];omega) (by rw [aI];omega) ?_
 refine Wk ?_
 refine bA (by rw [bQ];omega) (by rw [bQ];omega) ?_
 refine Wk ?_
 refine bA (by rw [aA];omega) (by rw [aA];omega) ?_
 refine Wk ?_
 rw [aZ,bO,aI,bQ,aA]
 try subst hk
 exact⟨[some 2,some 3,some 4,some 5,some 6],Cl,rfl,Cl,rfl,Cl⟩
theorem bAN {k:Nat} (hk:k<8):IntKind.i64.wrap (1*2^min (k:Int).toNat IntKind.i64.bits)=((2^k:Nat):Int):=by
 have key:∀k:Fin 8,IntKind.i64.wrap (1*2^min (k.val:Int).toNat IntKind.i64.bits)=((2^k.val:Nat):Int):=by decide
 exact key ⟨k,hk⟩
theorem aID {x k:Nat} (hx:x<256)(hk:k<8):eX .and .i64 (x:Int) ((2^k:Nat):Int)=((x &&& 2^k:Nat):Int):=by
 have key:∀x:Fin 256,∀k:Fin 8,eX .and .i64 (x.val:Int) ((2^k.val:Nat):Int)=((x.val &&& 2^k.val:Nat):Int):=by decide +kernel
 exact key ⟨x,hx⟩ ⟨k,hk⟩
def kZ(blocks page:Nat):Bool:=((blocks &&& 2^page:Nat):Int)==0
theorem aZ1(f:Df)(hE:bG f.E)(page:Nat)(hp:page<8)(hb:f.blocks<256):aN Tryz.prog 121 [] [.agg f.c,.int .i64 (page:Int)] (.bool (kZ f.blocks page)) []:=by
 obtain⟨k0,k1,k2,k3,e⟩:=bI hE
 obtain⟨dev,slot,E,size,blocks,ec,ee⟩:=f
 dsimp only at hb e
 unfold Df.c
 dsimp only
 rw [e]
 refine aF (ob0:= []) [] Tryz.func121 rfl rfl rfl rfl ?_
 refine Wk ?_
 first |refine aB (by omega) ?_ |refine aH (fun _=>by omega) ?_ |refine⟨fun _=>by omega,?_⟩
 refine Wk ?_
 rw [bAN hp,aID hb hp]
 try subst hk
 exact Lf
theorem bFA(f:Df)(hE:bG f.E)(page:Nat)(hp:page<8)(hb:f.blocks<256):aN Tryz.prog 145 [] [.agg f.c,.int .i64 (page:Int)] (.bool (kZ f.blocks page)) []:=by
 obtain⟨k0,k1,k2,k3,e⟩:=bI hE
 obtain⟨dev,slot,E,size,blocks,ec,ee⟩:=f
 dsimp only at hb e
 unfold Df.c
 dsimp only
 rw [e]
 refine aF (ob0:= []) [] Tryz.func145 rfl rfl rfl rfl ?_
 refine Wk ?_
 first |refine aB (by omega) ?_ |refine aH (fun _=>by omega) ?_ |refine⟨fun _=>by omega,?_⟩
 refine Wk ?_
 rw [bAN hp,aID hb hp]
 try subst hk
 exact Lf
theorem aDM(c:Dc)(f:Nat)(hf:f<c.fl.length):aN Tryz.prog 115 [] [.agg c.c,.int .i64 (f:Int)] (.bool true) []:=by
 obtain⟨fl,fr,zo,gr,ls,ck,pt⟩:=c
 dsimp only at hf
 show aN Tryz.prog 115 [] [.agg [.lst 15 false (bM fl),.lst 9 false (aV fr),.lst 6 false (aP zo),.lst 3 false (bE gr),.lst 3 false (bZ ls),.lst 1 false (aE ck),.lst 5 false (aX pt)],.int .i64 (f:Int)] (.bool true) []
 refine aF (ob0:= []) [] Tryz.func115 rfl rfl rfl rfl ?_
 refine Wk ?_
 rw [aZ,show decide ((0:Int)≤(f:Int))=true from decide_eq_true (by omega),show decide ((f:Int)< (fl.length:Int))=true from decide_eq_true (by omega)]
 try subst hk
 exact Lf
end Go.Proofs.YtmhapcbjjpadnaaGreat
set_option maxRecDepth 40000
namespace Go.Proofs.YtmhapcbjjpadnaaGreat
open Go Go.Sk Go.RowKit
def aR:Df:=⟨0,0,fun _=>(0,0),0,0,0,0⟩
theorem eL(L:List Df)(k:Nat)(h:k<L.length):(bM L).getD k []=(L.getD k aR).c:=by
 simp [bM,zH,h]
theorem cD(L:List (Option Us))(k:Nat)(h:k<L.length):(aV L).getD k []=frC (L.getD k none):=by
 simp [aV,zH,h]
def mE(E:cK)(u:Us):cK:=mW (mW E u.page (u.p.d != 0) 1) u.page (u.wr != 0) 2
theorem kC(E:cK)(i m:Nat)(on:Bool)(j:Nat):(mW E i on m j).1=(E j).1:=by
 unfold mW
 by_cases e:j=i
 ·subst e;rw [dS]
 ·rw [cS e]
theorem sQ.mrk {E:cK} (h:sQ E) {i m:Nat} {on:Bool} :sQ (mW E i on m):=fun j hj=>by rw [kC];exact h j hj
theorem aYU {E:cK} (hE:bG E)(hs:sQ E) {u:Us} (hv:0< (E u.page).1):bG (mE E u)∧sQ (mE E u):=by
 have h1:=hE.mrk (i:=u.page) (m:=1) (on:=(u.p.d != 0)) (by decide) hv
 exact⟨h1.mrk (i:=u.page) (m:=2) (on:=(u.wr != 0)) (by decide) (by rw [kC];exact hv),hs.mrk.mrk⟩
def eK(f:Df)(E:cK):Df:=⟨f.dev,f.slot,E,f.size,f.blocks,f.ec,f.ee⟩
theorem sC(L:List Df)(k:Nat)(E:cK)(h:k<L.length)(hE:bG (L.getD k aR).E)(hE':bG E):(bM L).set k (aQ 15 ((bM L).getD k []) 2 (can E))=bM (L.set k (eK (L.getD k aR) E)):=by
 rw [eL L k h,bM,bM,List.map_set]
 obtain⟨k0,k1,k2,k3,e⟩:=bI hE
 obtain⟨q0,q1,q2,q3,e'⟩:=bI hE'
 congr 1
 unfold Df.c eK
 dsimp only
 rw [e,e']
 rfl
structure nE(c:Dc)(n:Nat)(u:Us):Prop where
 at_:n<c.fr.length
 get:c.fr.getD n none=some u
 file:u.file<c.fl.length
 page:u.page<16
 E:bG (c.fl.getD u.file aR).E
 sup:sQ (c.fl.getD u.file aR).E
 val:0< ((c.fl.getD u.file aR).E u.page).1
 pg:eA u.p
 ten:u.ten<c.ls.length
 rd:u.rd<4
 wr:u.wr<4
def Dc.mark(c:Dc)(u:Us):Dc:=⟨c.fl.set u.file (eK (c.fl.getD u.file aR) (mE (c.fl.getD u.file aR).E u)),c.fr,c.zo,c.gr,c.ls,c.ck,c.pt⟩
set_option maxRecDepth 20000 in
set_option maxHeartbeats 1000000 in
theorem aZU(c:Dc)(n:Nat)(u:Us)(hc:SmD c)(h:nE c n u):aN Tryz.prog 252 c.ob [.agg c.o,.int .i64 ((n+1:Nat):Int)] (.agg (c.mark u).o) (c.mark u).ob:=by
 obtain⟨h1,h2,h3,h4,h5,h6,h7,h8,h9,h10,h11⟩:=h
 obtain⟨fl,fr,zo,gr,ls,ck,pt⟩:=c
 obtain⟨s1,s2,s3,s4,s5⟩:=hc
 dsimp only at h1 h2 h3 h5 h6 h7 h9 s1 s2 s3 s4 s5
 have hgu:=cD fr n h1
 rw [h2] at hgu
 have hgu:(aV fr).getD n []=u.c:=hgu
 have hgf:=eL fl u.file h3
 obtain⟨m1,m2⟩:=aYU h5 h6 h7
 have hput:=sC fl u.file _ h3 h5 m1
 rw [hgf] at hput
 unfold Dc.mark
 dsimp only
 generalize hff:fl.getD u.file aR=f at *
 show aN Tryz.prog 252 [.row 15 (bM fl),.row 9 (aV fr),.row 3 (bE gr),.row 3 (bZ ls),.row 1 (aE ck)] [.agg [.sl 0 0 fl.length,.sl 1 0 fr.length,.lst 6 false (aP zo),.sl 2 0 gr.length,.sl 3 0 ls.length,.sl 4 0 ck.length,.lst 5 false (aX pt)],.int .i64 ((n+1:Nat):Int)]
  (.agg [.sl 0 0 (fl.set u.file (eK f (mE f.E u))).length,.sl 1 0 fr.length,.lst 6 false (aP zo),.sl 2 0 gr.length,.sl 3 0 ls.length,.sl 4 0 ck.length,.lst 5 false (aX pt)]) [.row 15 (bM (fl.set u.file (eK f (mE f.E u)))),.row 9 (aV fr),.row 3 (bE gr),.row 3 (bZ ls),.row 1 (aE ck)]
 rw [zD]
 generalize bM (fl.set u.file (eK f (mE f.E u)))=R at hput⊢
 obtain⟨file,page,⟨b,v,d⟩,ten,holds,rd,wr⟩:=u
 have hgu:(aV fr).getD n []=[.int .i64 (file:Int),.int .i64 (page:Int),.str b,.int .i64 (v:Int),.int .i64 (d:Int),.int .i64 (ten:Int),.int .i64 (holds:Int),.int .i64 (rd:Int),.int .i64 (wr:Int)]:=hgu
 dsimp only [mE] at h3 h4 h7 h8 h10 h11 hput hgf m1 m2
 obtain⟨k0,k1,k2,k3,e⟩:=bI h5
 have hfc:f.c=[.int .i64 f.dev,.int .i64 f.slot,.int .i64 (hgt f.E:Int),.lst k0 k1 k2,.int .i64 k3,.int .i64 (kL f.E 0 (4^hgt f.E):Nat),.int .i64 (f.size:Int),.int .i64 (f.blocks:Int),.int .i64 f.ec,.int .i64 f.ee,.int .i64 0,.int .i64 0,.int .i64 0,.int .i64 0,.int .i64 0]:=by unfold Df.c;rw [e];rfl
 rw [hfc] at hgf hput
 have hd4:=h8.d
 dsimp only at hd4
 refine aF (ob0:= [.row 15 (bM fl),.row 9 (aV fr),.row 3 (bE gr),.row 3 (bZ ls),.row 1 (aE ck)]) [] Tryz.func252 rfl rfl rfl rfl ?_
 refine Wk ?_
 rw [aO (n:=((n+1:Nat):Int)-1) (by omega) (by omega),show((n+1:Nat):Int)-1=(n:Int) by omega,show decide (0≤(n:Int)∧(n:Int)< (fr.length:Int))=true from decide_eq_true ⟨by omega,by omega⟩]
 refine Wk ?_
 rw [show 0+(n:Int).toNat=n by omega,show decide (n< (aV fr).length)=true from decide_eq_true (by rw [bO];exact h1),hgu]
 refine Wk ?_
 rw [show decide (0≤(file:Int)∧(file:Int)< (fl.length:Int))=true from decide_eq_true ⟨by omega,by omega⟩]
 refine Wk ?_
 rw [show 0+(file:Int).toNat=file by omega,show decide (file< (bM fl).length)=true from decide_eq_true (by rw [aZ];exact h3),hgf]
 refine Wk ?_
 have hdd:(((d:Nat):Int) != 0)=(d != 0):=by
  cases hd:(d != 0) with
  |true=>rw [bne_iff_ne] at hd⊢;omega
  |false=>rw [bne_eq_false_iff_eq] at hd⊢;omega
 have hww:(((wr:Nat):Int) != 0)=(wr != 0):=by
  cases hd:(wr != 0) with
  |true=>rw [bne_iff_ne] at hd⊢;omega
  |false=>rw [bne_eq_false_iff_eq] at hd⊢;omega
 rw [hdd]
 cases hd:(d != 0) with
 |true=>
  rw [hd] at hput m1
  have n1:=h5.mrk (i:=page) (m:=1) (on:=true) (by decide) h7
  have n2:=h6.mrk (i:=page) (m:=1) (on:=true)
  have j1:=aTU h5 h6 page h4 1 (.inl rfl) h7
  obtain⟨p0,p1,p2,p3,e1⟩:=bI n1
  rw [e,e1] at j1
  refine cC j1 ?_
  rw [hww]
  cases hw:(wr != 0) with
  |true=>
   have j2:=aTU n1 n2 page h4 2 (.inr (.inl rfl)) (by rw [kC];exact h7)
   rw [hw] at hput m1
   obtain⟨r0,r1,r2,r3,e2⟩:=bI m1
   rw [e1,e2] at j2
   rw [e2] at hput
   refine cC j2 ?_
   rw [show decide (0≤(file:Int)∧(file:Int)< (fl.length:Int))=true from decide_eq_true ⟨by omega,by omega⟩]
   refine Wk ?_
   rw [show 0+(file:Int).toNat=file by omega,show decide (file< (bM fl).length)=true from decide_eq_true (by rw [aZ];exact h3),hgf]
   refine Wk ?_
   try subst hk
   refine⟨[some 0,some 1,some 2,some 3,some 4],?_,rfl,?_,rfl,?_⟩
   all_goals repeat' (first |exact trivial |rfl |exact .inl rfl |exact .inr rfl |exact id |exact(fun h=>Bool.noConfusion h)|refine And.intro ?_ ?_)
   exact hput
  |false=>
   have j2:=aTV n1 n2 page h4 2 (.inr (.inl rfl)) (by rw [kC];exact h7)
   rw [hw] at hput m1
   obtain⟨r0,r1,r2,r3,e2⟩:=bI m1
   rw [e1,e2] at j2
   rw [e2] at hput
   refine cC j2 ?_
   rw [show decide (0≤(file:Int)∧(file:Int)< (fl.length:Int))=true from decide_eq_true ⟨by omega,by omega⟩]
   refine Wk ?_
   rw [show 0+(file:Int).toNat=file by omega,show decide (file< (bM fl).length)=true from decide_eq_true (by rw [aZ];exact h3),hgf]
   refine Wk ?_
   try subst hk
   refine⟨[some 0,some 1,some 2,some 3,some 4],?_,rfl,?_,rfl,?_⟩
   all_goals repeat' (first |exact trivial |rfl |exact .inl rfl |exact .inr rfl |exact id |exact(fun h=>Bool.noConfusion h)|refine And.intro ?_ ?_)
   exact hput
 |false=>
  rw [hd] at hput m1
  have n1:=h5.mrk (i:=page) (m:=1) (on:=false) (by decide) h7
  have n2:=h6.mrk (i:=page) (m:=1) (on:=false)
  have j1:=aTV h5 h6 page h4 1 (.inl rfl) h7
  obtain⟨p0,p1,p2,p3,e1⟩:=bI n1
  rw [e,e1] at j1
  refine cC j1 ?_
  rw [hww]
  cases hw:(wr != 0) with
  |true=>
   have j2:=aTU n1 n2 page h4 2 (.inr (.inl rfl)) (by rw [kC];exact h7)
   rw [hw] at hput m1
   obtain⟨r0,r1,r2,r3,e2⟩:=bI m1
   rw [e1,e2] at j2
   rw [e2] at hput
   refine cC j2 ?_
   rw [show decide (0≤(file:Int)∧(file:Int)< (fl.length:Int))=true from decide_eq_true ⟨by omega,by omega⟩]
   refine Wk ?_
   rw [show 0+(file:Int).toNat=file by omega,show decide (file< (bM fl).length)=true from decide_eq_true (by rw [aZ];exact h3),hgf]
   refine Wk ?_
   try subst hk
   refine⟨[some 0,some 1,some 2,some 3,some 4],?_,rfl,?_,rfl,?_⟩
   all_goals repeat' (first |exact trivial |rfl |exact .inl rfl |exact .inr rfl |exact id |exact(fun h=>Bool.noConfusion h)|refine And.intro ?_ ?_)
   exact hput
  |false=>
   have j2:=aTV n1 n2 page h4 2 (.inr (.inl rfl)) (by rw [kC];exact h7)
   rw [hw] at hput m1
   obtain⟨r0,r1,r2,r3,e2⟩:=bI m1
   rw [e1,e2] at j2
   rw [e2] at hput
   refine cC j2 ?_
   rw [show decide (0≤(file:Int)∧(file:Int)< (fl.length:Int))=true from decide_eq_true ⟨by omega,by omega⟩]
   refine Wk ?_
   rw [show 0+(file:Int).toNat=file by omega,show decide (file< (bM fl).length)=true from decide_eq_true (by rw [aZ];exact h3),hgf]
   refine Wk ?_
   try subst hk
   refine⟨[some 0,some 1,some 2,some 3,some 4],?_,rfl,?_,rfl,?_⟩
   all_goals repeat' (first |exact trivial |rfl |exact .inl rfl |exact .inr rfl |exact id |exact(fun h=>Bool.noConfusion h)|refine And.intro ?_ ?_)
   exact hput
def Dc.setU(c:Dc)(n:Nat)(u:Us):Dc:=⟨c.fl,c.fr.set n (some u),c.zo,c.gr,c.ls,c.ck,c.pt⟩
def Dc.put(c:Dc)(n:Nat)(u:Us):Dc:=(c.setU n u).mark u
set_option maxRecDepth 20000 in
set_option maxHeartbeats 1000000 in
theorem aT4(c:Dc)(n:Nat)(u:Us)(hc:SmD c)(h:nE (c.setU n u) n u):aN Tryz.prog 155 [] [.agg c.c,.int .i64 ((n+1:Nat):Int),.agg u.c] (.agg (c.put n u).c) []:=by
 have hn:n<c.fr.length:=by have :=h.at_;simpa [Dc.setU] using this
 have hs':SmD (c.setU n u):=⟨hc.fl,by show(c.fr.set n (some u)).length≤64;rw [zD];exact hc.fr,hc.gr,hc.ls,hc.ck⟩
 have k252:=aZU (c.setU n u) n u hs' h
 have k85:=aJZ c hc
 unfold Dc.put
 obtain⟨fl,fr,zo,gr,ls,ck,pt⟩:=c
 have hfr:=hc.fr
 dsimp only at hn hfr
 have hset:(aV fr).set n (aQ 9 ((aV fr).getD n []) 0 u.c)=aV (fr.set n (some u)):=by
  rw [cD fr n hn]
  have :aQ 9 (frC (fr.getD n none)) 0 u.c=u.c:=by cases fr.getD n none <;> rfl
  rw [this];unfold aV;rw [List.map_set];rfl
 generalize hq:(Dc.setU ⟨fl,fr,zo,gr,ls,ck,pt⟩ n u).mark u=q at k252⊢
 obtain⟨fl2,fr2,zo2,gr2,ls2,ck2,pt2⟩:=q
 unfold Dc.o Dc.ob Dc.setU at k252
 dsimp only at k252
 rw [zD,←hset] at k252
 refine aF (ob0:= []) [] Tryz.func155 rfl rfl rfl rfl ?_
 refine Wk ?_
 refine .inr ⟨fun _=>⟨[],_,_,_,k85,trivial,rfl,rfl,rfl,?_⟩,(by intro h;cases h)⟩
 refine Wk ?_
 rw [aO (n:=((n+1:Nat):Int)-1) (by omega) (by omega),show((n+1:Nat):Int)-1=(n:Int) by omega,show decide (0≤(n:Int)∧(n:Int)< (fr.length:Int))=true from decide_eq_true ⟨by omega,by omega⟩]
 refine Wk ?_
 rw [show 0+(n:Int).toNat=n by omega,show decide (n< (aV fr).length)=true from decide_eq_true (by rw [bO];exact hn)]
 refine Wk ?_
 refine .inr ⟨fun _=>⟨[3,4,5,6,7],_,_,_,k252,⟨rfl,rfl,rfl,rfl,rfl,trivial⟩,rfl,rfl,rfl,?_⟩,(by intro h;cases h)⟩
 refine Wk ?_
 refine⟨[],trivial,rfl,trivial,rfl,?_⟩
 try subst hk
 repeat' (first |exact trivial |rfl |exact .inl rfl |exact .inr rfl |exact id |exact(fun h=>Bool.noConfusion h)|refine And.intro ?_ ?_)
 all_goals first
  |exact bW rfl (aZ _)
  |exact bW rfl (bO _)
  |exact bW rfl (aI _)
  |exact bW rfl (bQ _)
  |exact bW rfl (aA _)
  | (rw [aZ];omega)
  | (rw [bO];omega)
  | (rw [aI];omega)
  | (rw [bQ];omega)
  | (rw [aA];omega)
  |trace_state
end Go.Proofs.YtmhapcbjjpadnaaGreat
