/- Caches. -/
import Derived.Test.YtmhapcbjjpadnaaGreatGRm
import Derived.Test.YtmhapcbjjpadnaaGreatGGm
set_option linter.unusedSimpArgs false
set_option linter.unusedVariables false
set_option linter.constructorNameAsVariable false
set_option maxRecDepth 40000
namespace Go.Proofs.YtmhapcbjjpadnaaGreat
open Go Go.Sk Go.RowKit
def sB(c:Dc)(f p:Nat):Int:=match cC c f p with |none=>0 |some x=>((x.1+1:Nat):Int)
def aCC(c:Dc)(f off n k:Nat):List (List V):=(List.range k).map fun i=> [.int .i64 ((off/16+i:Nat):Int),.int .i64 ((aP (off/16+i) off n).1:Int),.int .i64 ((aP (off/16+i) off n).2:Int),.int .i64 (sB c f (off/16+i)),.bool (pW c f off n (off/16+i))]
@[simp] theorem bEE (c:Dc) (f off n k:Nat):(aCC c f off n k).length=k:=by simp [aCC]
theorem aEJ(c:Dc)(f off n k:Nat):aCC c f off n (k+1)=aCC c f off n k++ [[.int .i64 ((off/16+k:Nat):Int),.int .i64 ((aP (off/16+k) off n).1:Int),.int .i64 ((aP (off/16+k) off n).2:Int),.int .i64 (sB c f (off/16+k)),.bool (pW c f off n (off/16+k))]]:=by
 simp [aCC,List.range_succ]
theorem aHW(c:Dc)(f off n m k:Nat)(h:k<m):(aCC c f off n m).getD k []=[.int .i64 ((off/16+k:Nat):Int),.int .i64 ((aP (off/16+k) off n).1:Int),.int .i64 ((aP (off/16+k) off n).2:Int),.int .i64 (sB c f (off/16+k)),.bool (pW c f off n (off/16+k))]:=by
 simp [aCC,List.getD_eq_getElem?_getD,h]
theorem aEW(c:Dc)(f off n p:Nat):(pW c f off n p=true∧(aP p off n).1=0∧p*16+(aP p off n).2=min (c.fl.getD f aK).size ((p+1)*16))∨(pW c f off n p=false∧(aP p off n).1≠0)∨(pW c f off n p=false∧(aP p off n).1=0∧p*16+(aP p off n).2≠min (c.fl.getD f aK).size ((p+1)*16)):=by
 unfold pW
 by_cases h1:(aP p off n).1=0
 ·rw [beq_iff_eq.2 (show((aP p off n).1:Int)=0 by omega),cond_true]
  by_cases h2:p*16+(aP p off n).2=min (c.fl.getD f aK).size ((p+1)*16)
  ·exact .inl ⟨beq_iff_eq.2 (by omega),h1,h2⟩
  ·exact .inr (.inr ⟨beq_eq_false_iff_ne.2 (by omega),h1,h2⟩)
 ·rw [beq_eq_false_iff_ne.2 (show((aP p off n).1:Int)≠0 by omega),cond_false]
  exact .inr (.inl ⟨rfl,h1⟩)
theorem bHJ(c:Dc):oA c 0=false:=by unfold oA;rfl
theorem bBO {c:Dc} (h:Ok c) {f p:Nat} (hf:f<c.fl.length)(hp:p<16):∃b:Bool,aQ Tryz.prog 138 [] [.agg c.c,.int .i64 (f:Int),.int .i64 (p:Int)] (.tup [.int .i64 (sB c f p),.bool b]) []∧aQ Tryz.prog 96 [] [.agg c.c,.int .i64 (sB c f p)] (.bool b) []∧(b=false→sB c f p=0):=by
 unfold sB
 cases e:cC c f p with
 |none=>exact⟨false,h.f138n hf hp e,by have :=aTR c 0 h.sm;rwa [bHJ] at this,fun _=>rfl⟩
 |some x=>
  obtain⟨q1,q2,q3,q4,q5⟩:=bI h hf e
  exact⟨true,h.f138s hf hp e,h.use96 q1 q2,fun x=>by cases x⟩
noncomputable def aVM:Rsv Tryz.prog Tryz.f170 [] 4:=⟨_,_,rfl,rfl⟩
set_option maxHeartbeats 4000000 in
theorem bFC(c:Dc)(h:Ok c)(f off n:Nat)(hf:f<c.fl.length)(hb:off+n≤128):aQ Tryz.prog 170 [] [.agg c.c,.int .i64 (f:Int),.int .i64 (off:Int),.int .i64 (n:Int)] (.lst 5 false (aCC c f off (bY c f off n) (cnt off (bY c f off n)))) []:=by
 have hgf:=mV hf
 have hs:=(h.file f hf).size
 obtain⟨k0,k1,k2,k3,hfc,-⟩:=Df.cells (h.file f hf).E
 rw [hfc] at hgf
 by_cases ho:off≤(c.fl.getD f aK).size
 ·have hrd:min (n:Int) (((c.fl.getD f aK).size:Int)- (off:Int))=((bY c f off n:Nat):Int):=by unfold bY;omega
  have hnl:bY c f off n≤n:=by unfold bY;omega
  have k162:=aD8 off (bY c f off n) (by omega)
  have hcn:=jF (off:=off) (n:=bY c f off n) (by omega)
  generalize bY c f off n=n2 at *
  refine bR aVM (ob0:= []) Tryz.func170 rfl rfl rfl ?_
  refine Wy ?_
  refine Lp (fun i:Nat=>i≤cnt off n2) (fun i=> [(30,.int .i64 (i:Int)),(10,.sl 1 0 i)]) (fun i=> [(1,.row 5 (aCC c f off n2 i))]) (fun i=>cnt off n2-i) 0 (Nat.zero_le _) ?_ ?_
  ·exact Vr [_,none]
  intro i hi
  refine Wy ?_
  refine lP (fun b=>?_) (fun b=>?_)
  ·have b:i<cnt off n2:=by omega
   have hg:=qV off n2 (cnt off n2) i b
   have hpi:=fF b
   have hq2:=aDF b
   have hst:=aEJ c f off n2 i
   have hw:=aEW c f off n2 (off/16+i)
   obtain⟨y,k138,k96,hy⟩:=bBO h hf (show off/16+i<16 by omega)
   generalize sB c f (off/16+i)=v at *
   generalize(aP (off/16+i) off n2).1=a1 at *
   generalize(aP (off/16+i) off n2).2=a2 at *
   generalize(c.fl.getD f aK).size=z at *
   rcases hw with ⟨w1,w2,w3⟩| ⟨w1,w2⟩| ⟨w1,w2,w3⟩
   all_goals
    rw [w1] at hst
    cases y with
    |true=>
     clear hy
     refine Wy ?_
     refine Le (i+1) (hv:=?_)
     simp only [hst]
     exact Vr [_,_]
    |false=>
     obtain rfl:=hy rfl
     refine Wy ?_
     refine Le (i+1) (hv:=?_)
     simp only [hst]
     exact Vr [_,_]
  obtain rfl:i=cnt off n2:=by omega
  exact eR
 ·have hrd:bY c f off n=0:=by unfold bY;omega
  have k162:=aT7 (off:Int) (min (n:Int) (((c.fl.getD f aK).size:Int)- (off:Int))) (.inl (by omega))
  rw [hrd]
  refine aQ.le (res:=.lst 0 true []) ?_ (kF.refl _) tN.nils (lO.refl _)
  generalize(c.fl.getD f aK).size=z at *
  refine bR aVM (ob0:= []) Tryz.func170 rfl rfl rfl ?_
  refine Wy ?_
  refine Lp (fun _:Unit=>True) (fun _=> [(30,.int .i64 0),(10,.lst 0 true [])]) (fun _=> []) (fun _=>0) () trivial ?_ ?_
  ·exact Vr [_]
  intro _ _
  exact eR
noncomputable def aVN:Rsv Tryz.prog Tryz.f171 [] 2:=⟨_,_,rfl,rfl⟩
set_option maxHeartbeats 2000000 in
theorem bFD(c:Dc)(h:Ok c)(f off n p:Nat)(hf:f<c.fl.length)(hp:(aP p off n).1+(aP p off n).2≤16):aQ Tryz.prog 171 [] [.agg c.c,.agg [.int .i64 (p:Int),.int .i64 ((aP p off n).1:Int),.int .i64 ((aP p off n).2:Int),.int .i64 (sB c f p),.bool (pW c f off n p)]] (.bool (aIT c f off n p)) []:=by
 unfold aIT sB
 cases e:cC c f p with
 |none=>
  dsimp only
  cases pW c f off n p with
  |true=>
   refine bR aVN (ob0:= []) Tryz.func171 rfl rfl rfl ?_
   exact eR
  |false=>
   refine bR aVN (ob0:= []) Tryz.func171 rfl rfl rfl ?_
   exact eR
 |some x=>
  obtain⟨m,u⟩:=x
  obtain⟨q1,q2,q3,q4,q5⟩:=bI h hf e
  have hu:=h.use m u q1 q2
  have hgu:=pH q1 q2
  have hnr:=h.nr
  have k151:=aZJ u
  have k163:=aT8 u.p hu.pg _ _ hp true
  rw [show mH u.p (aP p off n).1 (aP p off n).2 true=gL u off n p true from rfl] at k163
  dsimp only
  generalize gL u off n p true=y at *
  cases pW c f off n p with
  |true=>
   rw [cond_true]
   generalize pR u=d at *
   refine bR aVN (ob0:= []) Tryz.func171 rfl rfl rfl ?_
   exact eR
  |false=>
   rw [cond_false]
   refine bR aVN (ob0:= []) Tryz.func171 rfl rfl rfl ?_
   exact eR
noncomputable def R58:Rsv Tryz.prog Tryz.f58 [] 4:=⟨_,_,rfl,rfl⟩
set_option maxHeartbeats 8000000 in
theorem bGN(c:Dc)(h:Ok c)(f off n:Nat)(hf:f<c.fl.length)(hb:off+n≤128):aQ Tryz.prog 58 [] [.agg c.c,.int .i64 (f:Int),.int .i64 (off:Int),.int .i64 (n:Int)] (aW5 (eI c f off (bY c f off n) (cnt off (bY c f off n)))) []:=by
 have k141:=aD7 c f hf
 have k161:=uL (off:Int) (n:Int)
 rw [sU hb] at k161
 have hnl:bY c f off n≤n:=by unfold bY;omega
 have k170:=bFC c h f off n hf hb
 have hcn:=jF (off:=off) (n:=bY c f off n) (by omega)
 unfold aW5
 generalize bY c f off n=n2 at *
 refine bR R58 (ob0:= []) Tryz.func58 rfl rfl rfl ?_
 refine Wy ?_
 refine Lp (fun i:Nat=>i≤cnt off n2) (fun i=> [(32,.int .i64 (i:Int)),(11,.int .i64 ((eI c f off n2 i).1:Int)),(12,.int .i64 ((eI c f off n2 i).2.1:Int)),(13,.bool (eI c f off n2 i).2.2)]) (fun i=> []) (fun i=>cnt off n2-i) 0 (Nat.zero_le _) ?_ ?_
 ·exact Vr [_]
 intro i hi
 have hlt:=aMS c f off n2 i (by omega)
 refine Wy ?_
 refine lP (fun b=>?_) (fun b=>?_)
 ·have b:i<cnt off n2:=by omega
  have hg:=aHW c f off n2 (cnt off n2) i b
  have hpi:=fF b
  have k171:=bFD c h f off n2 (off/16+i) hf hpi.1
  have h2p:2^(off/16+i)<2^8:=Nat.pow_lt_pow_right (by omega) (by omega)
  have hst:eI c f off n2 (i+1)=(bif pW c f off n2 (off/16+i) then(eI c f off n2 i).1 ||| 2^(off/16+i) else(eI c f off n2 i).1,bif pW c f off n2 (off/16+i) then(eI c f off n2 i).2.1 else(eI c f off n2 i).2.1 ||| 2^(off/16+i),(eI c f off n2 i).2.2&&aIT c f off n2 (off/16+i)):=rfl
  generalize eI c f off n2 i=q at *
  obtain⟨w,t,m⟩:=q
  dsimp only at hlt hst⊢
  generalize aIT c f off n2 (off/16+i)=y at *
  generalize sB c f (off/16+i)=v at *
  generalize(aP (off/16+i) off n2).1=a1 at *
  generalize(aP (off/16+i) off n2).2=a2 at *
  cases hw:pW c f off n2 (off/16+i) with
  |true=>
   rw [hw] at hg k171 hst
   rw [cond_true,cond_true] at hst
   cases m
   all_goals
    try simp only [Bool.true_and,Bool.false_and] at hst
    refine Wy ?_
    refine Le (i+1) (hv:=?_)
    simp only [hst]
    exact Vr [_]
  |false=>
   rw [hw] at hg k171 hst
   rw [cond_false,cond_false] at hst
   cases m
   all_goals
    try simp only [Bool.true_and,Bool.false_and] at hst
    refine Wy ?_
    refine Le (i+1) (hv:=?_)
    simp only [hst]
    exact Vr [_]
 obtain rfl:i=cnt off n2:=by omega
 exact eR
end Go.Proofs.YtmhapcbjjpadnaaGreat
