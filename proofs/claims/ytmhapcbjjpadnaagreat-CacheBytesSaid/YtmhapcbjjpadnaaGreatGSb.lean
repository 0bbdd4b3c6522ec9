/- Caches. -/
import Derived.Test.YtmhapcbjjpadnaaGreatGRb
import Derived.Test.YtmhapcbjjpadnaaGreatGGb
set_option linter.all false
set_option maxHeartbeats 8000000
set_option maxRecDepth 40000
namespace Go.Proofs.YtmhapcbjjpadnaaGreat
open Go Go.Sk Go.RowKit
def tV(c:Dc)(f p:Nat):Int:=match eA c f p with |none=>0 |some x=>((x.1+1:Nat):Int)
def aDO(c:Dc)(f off n k:Nat):List (List V):=(List.range k).map λi=> [.int .i64 ((off/16+i:Nat):Int),.int .i64 ((aO (off/16+i) off n).1:Int),.int .i64 ((aO (off/16+i) off n).2:Int),.int .i64 (tV c f (off/16+i)),.bool (oZ c f off n (off/16+i))]
@[simp] theorem bGF (c:Dc) (f off n k:Nat):(aDO c f off n k).length=k:=by simp [aDO]
theorem aFS(c:Dc)(f off n k:Nat):aDO c f off n (k+1)=aDO c f off n k++ [[.int .i64 ((off/16+k:Nat):Int),.int .i64 ((aO (off/16+k) off n).1:Int),.int .i64 ((aO (off/16+k) off n).2:Int),.int .i64 (tV c f (off/16+k)),.bool (oZ c f off n (off/16+k))]]:=by
 simp [aDO,List.range_succ]
theorem aJS(c:Dc)(f off n m k:Nat)(h:k<m):(aDO c f off n m).getD k []=[.int .i64 ((off/16+k:Nat):Int),.int .i64 ((aO (off/16+k) off n).1:Int),.int .i64 ((aO (off/16+k) off n).2:Int),.int .i64 (tV c f (off/16+k)),.bool (oZ c f off n (off/16+k))]:=by
 simp [aDO,List.getD_eq_getElem?_getD,h]
theorem aG7(c:Dc)(f off n p:Nat):(oZ c f off n p=true/\(aO p off n).1=0/\p*16+(aO p off n).2=min (c.fl.getD f aP).size ((p+1)*16))\/(oZ c f off n p=false/\(aO p off n).1≠0)\/(oZ c f off n p=false/\(aO p off n).1=0/\p*16+(aO p off n).2≠min (c.fl.getD f aP).size ((p+1)*16)):=by
 unfold oZ
 by_cases h1:(aO p off n).1=0
 ·rw [beq_iff_eq.2 (show((aO p off n).1:Int)=0 by omega),cond_true]
  by_cases h2:p*16+(aO p off n).2=min (c.fl.getD f aP).size ((p+1)*16)
  ·exact .inl ⟨beq_iff_eq.2 (by omega),h1,h2⟩
  ·exact .inr (.inr ⟨beq_eq_false_iff_ne.2 (by omega),h1,h2⟩)
 ·rw [beq_eq_false_iff_ne.2 (show((aO p off n).1:Int)≠0 by omega),cond_false]
  exact .inr (.inl ⟨rfl,h1⟩)
theorem bKV(c:Dc):gC c 0=false:=by unfold gC;rfl
theorem bDG {c:Dc} (h:Ok c) {f p:Nat} (hf:f<c.fl.length)(hp:p<16):∃b:Bool,aM Tryz.prog 138 [] [.agg c.c,.int .i64 (f:Int),.int .i64 (p:Int)] (.tup [.int .i64 (tV c f p),.bool b]) []/\aM Tryz.prog 96 [] [.agg c.c,.int .i64 (tV c f p)] (.bool b) []/\(b=false->tV c f p=0):=by
 unfold tV
 cases e:eA c f p with
 |none=>exact⟨false,h.f138n hf hp e,by have :=bJW c 0 h.sm;rwa [bKV] at this,λ_=>rfl⟩
 |some x=>
  obtain⟨q1,q2,q3,q4,q5⟩:=bM h hf e
  exact⟨true,h.f138s hf hp e,h.use96 q1 q2,λx=>by cases x⟩
noncomputable def aX8:Rsv Tryz.prog Tryz.f170 [] 4:=⟨_,_,rfl,rfl⟩
theorem bHQ(c:Dc)(h:Ok c)(f off n:Nat)(hf:f<c.fl.length)(hb:off+n<=128):aM Tryz.prog 170 [] [.agg c.c,.int .i64 (f:Int),.int .i64 (off:Int),.int .i64 (n:Int)] (.lst 5 false (aDO c f off (bS c f off n) (cnt off (bS c f off n)))) []:=by
 have hgf:=iS hf
 have hs:=(h.file f hf).size
 obtain⟨k0,k1,k2,k3,hfc,-⟩:=Df.cells (h.file f hf).E
 rw [hfc] at hgf
 by_cases ho:off<=(c.fl.getD f aP).size
 ·have hrd:min (n:Int) (((c.fl.getD f aP).size:Int)- (off:Int))=((bS c f off n:Nat):Int):=by unfold bS;omega
  have hnl:bS c f off n<=n:=by unfold bS;omega
  have k162:=aEL off (bS c f off n) (by omega)
  have hcn:=fK (off:=off) (n:=bS c f off n) (by omega)
  generalize bS c f off n=n2 at *
  refine bE aX8 (ob0:= []) Tryz.func170 rfl rfl rfl ?_
  refine Wy ?_
  refine Lp (λi:Nat=>i<=cnt off n2) (λi=> [(30,.int .i64 (i:Int)),(10,.sl 1 0 i)]) (λi=> [(1,.row 5 (aDO c f off n2 i))]) (λi=>cnt off n2-i) 0 (Nat.zero_le _) ?_ ?_
  ·exact Vr [_,none]
  intro i hi
  refine Wy ?_
  refine fP (λb=>?_) (λb=>?_)
  ·have b:i<cnt off n2:=by omega
   have hg:=sJ off n2 (cnt off n2) i b
   have hpi:=eY b
   have hq2:=aC2 b
   have hst:=aFS c f off n2 i
   have hw:=aG7 c f off n2 (off/16+i)
   obtain⟨y,k138,k96,hy⟩:=bDG h hf (show off/16+i<16 by omega)
   generalize tV c f (off/16+i)=v at *
   generalize(aO (off/16+i) off n2).1=a1 at *
   generalize(aO (off/16+i) off n2).2=a2 at *
   generalize(c.fl.getD f aP).size=z at *
   rcases hw with ⟨w1,w2,w3⟩| ⟨w1,w2⟩| ⟨w1,w2,w3⟩
   all_goals
    rw [w1] at hst
    cases y with
    |true=>
     clear hy
     refine Wy ?_
     refine Le (i+1) (hv:=?_)
     simp only [hst]
     exact Vr [_,_]
    |false=>
     obtain rfl:=hy rfl
     refine Wy ?_
     refine Le (i+1) (hv:=?_)
     simp only [hst]
     exact Vr [_,_]
  obtain rfl:i=cnt off n2:=by omega
  exact jR
 ·have hrd:bS c f off n=0:=by unfold bS;omega
  have k162:=aUL (off:Int) (min (n:Int) (((c.fl.getD f aP).size:Int)- (off:Int))) (.inl (by omega))
  rw [hrd]
  refine aM.le (res:=.lst 0 true []) ?_ (kN.refl _) uY.nils (lQ.refl _)
  generalize(c.fl.getD f aP).size=z at *
  refine bE aX8 (ob0:= []) Tryz.func170 rfl rfl rfl ?_
  refine Wy ?_
  refine Lp (λ_:Unit=>True) (λ_=> [(30,.int .i64 0),(10,.lst 0 true [])]) (λ_=> []) (λ_=>0) () trivial ?_ ?_
  ·exact Vr [_]
  intro _ _
  exact jR
noncomputable def aX9:Rsv Tryz.prog Tryz.f171 [] 2:=⟨_,_,rfl,rfl⟩
theorem bHR(c:Dc)(h:Ok c)(f off n p:Nat)(hf:f<c.fl.length)(hp:(aO p off n).1+(aO p off n).2<=16):aM Tryz.prog 171 [] [.agg c.c,.agg [.int .i64 (p:Int),.int .i64 ((aO p off n).1:Int),.int .i64 ((aO p off n).2:Int),.int .i64 (tV c f p),.bool (oZ c f off n p)]] (.bool (sF c f off n p)) []:=by
 unfold sF tV
 cases e:eA c f p with
 |none=>
  dsimp only
  cases oZ c f off n p with
  |true=>
   refine bE aX9 (ob0:= []) Tryz.func171 rfl rfl rfl ?_
   exact jR
  |false=>
   refine bE aX9 (ob0:= []) Tryz.func171 rfl rfl rfl ?_
   exact jR
 |some x=>
  obtain⟨m,u⟩:=x
  obtain⟨q1,q2,q3,q4,q5⟩:=bM h hf e
  have hu:=h.use m u q1 q2
  have hgu:=jB q1 q2
  have hnr:=h.nr
  have k151:=bHL u
  have k163:=aUM u.p hu.pg _ _ hp true
  rw [show kX u.p (aO p off n).1 (aO p off n).2 true=fT u off n p true from rfl] at k163
  dsimp only
  generalize fT u off n p true=y at *
  cases oZ c f off n p with
  |true=>
   rw [cond_true]
   generalize mA u=d at *
   refine bE aX9 (ob0:= []) Tryz.func171 rfl rfl rfl ?_
   exact jR
  |false=>
   rw [cond_false]
   refine bE aX9 (ob0:= []) Tryz.func171 rfl rfl rfl ?_
   exact jR
noncomputable def R58:Rsv Tryz.prog Tryz.f58 [] 4:=⟨_,_,rfl,rfl⟩
theorem bJQ(c:Dc)(f off n:Int)(h:eX c f off n=false):aM Tryz.prog 58 [] [.agg c.c,.int .i64 f,.int .i64 off,.int .i64 n] (.tup [.int .i64 0,.int .i64 0,.bool false]) []:=by
 have k141:=aN4 c f
 have k161:=qZ off n
 unfold eX at h
 cases hd:decide (0<=f/\f< (c.fl.length:Int)) with
 |false=>
  rw [hd] at k141
  refine bE R58 (ob0:= []) Tryz.func58 rfl rfl rfl ?_
  exact jR
 |true=>
  rw [hd,cond_true] at h
  rw [hd] at k141
  rw [h] at k161
  refine bE R58 (ob0:= []) Tryz.func58 rfl rfl rfl ?_
  exact jR
theorem bEW(c:Dc)(h:Ok c)(f off n:Nat)(hf:f<c.fl.length)(hb:off+n<=128):aM Tryz.prog 58 [] [.agg c.c,.int .i64 (f:Int),.int .i64 (off:Int),.int .i64 (n:Int)] (aHG (cW c f off (bS c f off n) (cnt off (bS c f off n)))) []:=by
 have k141:=aGK c f hf
 have k161:=qZ (off:Int) (n:Int)
 rw [iN hb] at k161
 have hnl:bS c f off n<=n:=by unfold bS;omega
 have k170:=bHQ c h f off n hf hb
 have hcn:=fK (off:=off) (n:=bS c f off n) (by omega)
 unfold aHG
 generalize bS c f off n=n2 at *
 refine bE R58 (ob0:= []) Tryz.func58 rfl rfl rfl ?_
 refine Wy ?_
 refine Lp (λi:Nat=>i<=cnt off n2) (λi=> [(32,.int .i64 (i:Int)),(11,.int .i64 ((cW c f off n2 i).1:Int)),(12,.int .i64 ((cW c f off n2 i).2.1:Int)),(13,.bool (cW c f off n2 i).2.2)]) (λi=> []) (λi=>cnt off n2-i) 0 (Nat.zero_le _) ?_ ?_
 ·exact Vr [_]
 intro i hi
 have hlt:=aCU c f off n2 i (by omega)
 refine Wy ?_
 refine fP (λb=>?_) (λb=>?_)
 ·have b:i<cnt off n2:=by omega
  have hg:=aJS c f off n2 (cnt off n2) i b
  have hpi:=eY b
  have k171:=bHR c h f off n2 (off/16+i) hf hpi.1
  have h2p:2^(off/16+i)<2^8:=Nat.pow_lt_pow_right (by omega) (by omega)
  have hst:cW c f off n2 (i+1)=(bif oZ c f off n2 (off/16+i) then(cW c f off n2 i).1 ||| 2^(off/16+i) else(cW c f off n2 i).1,bif oZ c f off n2 (off/16+i) then(cW c f off n2 i).2.1 else(cW c f off n2 i).2.1 ||| 2^(off/16+i),(cW c f off n2 i).2.2&&sF c f off n2 (off/16+i)):=rfl
  generalize cW c f off n2 i=q at *
  obtain⟨w,t,m⟩:=q
  dsimp only at hlt hst⊢
  generalize sF c f off n2 (off/16+i)=y at *
  generalize tV c f (off/16+i)=v at *
  generalize(aO (off/16+i) off n2).1=a1 at *
  generalize(aO (off/16+i) off n2).2=a2 at *
  cases hw:oZ c f off n2 (off/16+i) with
  |true=>
   rw [hw] at hg k171 hst
   rw [cond_true,cond_true] at hst
   cases m
   all_goals
    try simp only [Bool.true_and,Bool.false_and] at hst
    refine Wy ?_
    refine Le (i+1) (hv:=?_)
    simp only [hst]
    exact Vr [_]
  |false=>
   rw [hw] at hg k171 hst
   rw [cond_false,cond_false] at hst
   cases m
   all_goals
    try simp only [Bool.true_and,Bool.false_and] at hst
    refine Wy ?_
    refine Le (i+1) (hv:=?_)
    simp only [hst]
    exact Vr [_]
 obtain rfl:i=cnt off n2:=by omega
 exact jR
end Go.Proofs.YtmhapcbjjpadnaaGreat
