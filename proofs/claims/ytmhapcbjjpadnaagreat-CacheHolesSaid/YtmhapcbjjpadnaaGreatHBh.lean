/- Caches. -/
import Derived.Test.YtmhapcbjjpadnaaGreatHAh
set_option linter.all false
set_option maxHeartbeats 16000000
set_option maxRecDepth 40000
namespace Go.Proofs.YtmhapcbjjpadnaaGreat
open Go Go.Sk Go.RowKit
def lefF(l:List Gr)(out:List Int)(ps i:Nat):Int:=bif ps==0 then excF (l.getD i g0)-out.getD i 0 else(l.getD i g0).chg-out.getD i 0
def bstF(l:List Gr)(out:List Int)(ps:Nat):Nat->Int×Int
 |0=>(-1,0)
 |i+1=>bif decide ((bstF l out ps i).2<lefF l out ps i) then((i:Int),lefF l out ps i) else bstF l out ps i
def divN(l:List Gr)(ps:Nat):Nat->List Int->List Int×Nat
 |0,out=>(out,0)
 |n+1,out=>bif decide ((bstF l out ps l.length).1<0) then(out,n+1) else divN l ps n (out.set (bstF l out ps l.length).1.toNat (out.getD (bstF l out ps l.length).1.toNat 0+1))
def divP(l:List Gr)(n:Nat):Nat->List Int×Nat
 |0=>(List.replicate l.length 0,n)
 |k+1=>divN l k (divP l n k).2 (divP l n k).1
structure DivI(l:List Gr)(n0 n:Nat)(out:List Int):Prop where
 len:out.length=l.length
 le:n<=n0
 bd:∀i,0<=out.getD i 0/\out.getD i 0+(n:Int)<=(n0:Int)
theorem bstF_in(l:List Gr)(out:List Int)(ps:Nat):∀i,-1<=(bstF l out ps i).1/\(bstF l out ps i).1< (i:Int)
 |0=>⟨Int.le_refl _,by show(-1:Int)<0;omega⟩
 |i+1=>by
  have ih:=bstF_in l out ps i
  rw [bstF]
  cases decide ((bstF l out ps i).2<lefF l out ps i) with
  |true=>rw [cond_true];dsimp only;omega
  |false=>rw [cond_false];omega
theorem DivI.next {l:List Gr} {n0 n:Nat} {out:List Int} (h:DivI l n0 (n+1) out)(j:Nat):DivI l n0 n (out.set j (out.getD j 0+1)):=by
 refine⟨by rw [List.length_set];exact h.len,by have :=h.le;omega,λi=>?_⟩
 have hi:=h.bd i
 by_cases e:i=j
 ·subst e
  by_cases hl:i<out.length
  ·rw [aJ _ _ _ _ hl];omega
  ·rw [jI _ _ (Nat.le_of_not_lt hl)];omega
 ·rw [getD_set_ne _ _ _ e];omega
theorem divN_ok(l:List Gr)(ps n0:Nat):∀n out,DivI l n0 n out->DivI l n0 (divN l ps n out).2 (divN l ps n out).1
 |0,out,h=>h
 |n+1,out,h=>by
  rw [divN]
  cases decide ((bstF l out ps l.length).1<0) with
  |true=>exact h
  |false=>exact divN_ok l ps n0 n _ (h.next _)
theorem divP_ok(l:List Gr)(n:Nat):∀k,DivI l n (divP l n k).2 (divP l n k).1
 |0=>⟨by simp [divP],Nat.le_refl _,λi=>by
   have :(List.replicate l.length (0:Int)).getD i 0=0:=by
    rw [List.getD_eq_getElem?_getD,List.getElem?_replicate];split <;> rfl
   show 0<=(List.replicate l.length (0:Int)).getD i 0/\(List.replicate l.length (0:Int)).getD i 0+(n:Int)<=(n:Int)
   rw [this];omega⟩
 |k+1=>divN_ok l k n _ _ (divP_ok l n k)
theorem gr_in {l:List Gr} (h:rI l=true) {i:Nat} (hi:i<l.length):(0<=(l.getD i g0).chg/\(l.getD i g0).chg<=64)/\0<=(l.getD i g0).pro/\(l.getD i g0).pro<=64:=by
 have hb:=kY (Bool.and_eq_true _ _▸h).1 hi
 unfold oR aJI at hb
 simp only [Bool.or_eq_false_iff,decide_eq_false_iff_not] at hb
 omega
theorem bst_bd {l:List Gr} (h:rI l=true) {n0 n:Nat} {out:List Int} (hD:DivI l n0 n out)(ps:Nat)(hn:n0<=1000):∀i,i<=l.length->0<=(bstF l out ps i).2/\(bstF l out ps i).2<=64
 |0,_=>⟨Int.le_refl _,by show(0:Int)<=64;omega⟩
 |i+1,hi=>by
  have ih:=bst_bd h hD ps hn i (by omega)
  obtain⟨⟨a1,a2⟩,a3,a4⟩:=gr_in h (show i<l.length by omega)
  have hb:=hD.bd i
  rw [bstF]
  by_cases e:(bstF l out ps i).2<lefF l out ps i
  ·rw [decide_eq_true e,cond_true]
   dsimp only
   first |refine aB (by omega) ?_ |refine⟨by omega,?_⟩
   unfold lefF excF
   cases(ps==0) with
   |true=>
    rw [cond_true]
    cases decide ((l.getD i g0).chg<=(l.getD i g0).pro) with
    |true=>rw [cond_true];omega
    |false=>rw [cond_false];omega
   |false=>rw [cond_false];omega
  ·rw [decide_eq_false e,cond_false];exact ih
noncomputable def R101:Rsv Tryz.prog Tryz.f101 [] 2:=⟨_,_,rfl,rfl⟩
theorem ok101(l:List Gr)(hg:rI l=true)(n:Nat)(hn:n<=1000):aM Tryz.prog 101 [] [.lst 3 false (bC l),.int .i64 (n:Int)] (.lst 1 false (aE (divP l n 2).1)) []:=by
 have hl4:=(qH hg).2
 have k112:=aUF l false (by omega)
 rw [hg] at k112
 have hGl:(bC l).length=l.length:=by simp [bC]
 have hrep:List.replicate l.length [V.int .i64 0]=aE (divP l n 0).1:=by simp [aE,divP]
 refine bE R101 (ob0:= []) Tryz.func101 rfl rfl rfl ?_
 refine Wy ?_
 simp only [Int.toNat_natCast,hrep]
 refine Lp (λk:Nat=>k<=2) (λk=> [(6,.int .i64 (k:Int)),(1,.int .i64 ((divP l n k).2:Int))]) (λk=> [(0,.row 1 (aE (divP l n k).1))]) (λk=>2-k) 0 (Nat.zero_le _) ?_ ?_
 ·exact Vr [_]
 intro k hk
 have hP:=divP_ok l n k
 refine Wy ?_
 refine fP (λb=>?_) (λb=>?_)
 ·have b:k<2:=by omega
  have hq:divP l n (k+1)=divN l k (divP l n k).2 (divP l n k).1:=rfl
  generalize divP l n k=P at *
  generalize hQ:divP l n (k+1)=Q at *
  refine Wy ?_
  refine Lp (α:=Nat×List Int) (λx=>DivI l n x.1 x.2/\Q=divN l k x.1 x.2) (λx=> [(1,.int .i64 (x.1:Int))]) (λx=> [(0,.row 1 (aE x.2))]) (λx=>x.1) (P.2,P.1) ⟨hP,hq⟩ ?_ ?_
  ·exact Vr [_]
  rintro ⟨m,out⟩ ⟨hD,hm⟩
  dsimp only at hD hm⊢
  have hlen:=hD.len
  have hle:=hD.le
  refine Wy ?_
  refine fP (λb2=>?_) (λb2=>?_)
  ·obtain⟨m,rfl⟩:∃j,m=j+1:=⟨m-1,by omega⟩
   refine Wy ?_
   refine Lp (λi:Nat=>i<=l.length) (λi=> [(9,.int .i64 (i:Int)),(7,.int .i64 (bstF l out k i).1),(8,.int .i64 (bstF l out k i).2)]) (λi=> []) (λi=>l.length-i) 0 (Nat.zero_le _) ?_ ?_
   ·exact Vr [_]
   intro i hi
   have hb1:=bstF_in l out k i
   have hb2:=bst_bd hg hD k hn i hi
   refine Wy ?_
   refine fP (λb3=>?_) (λb3=>?_)
   ·have b3:i<l.length:=by omega
    have hgr:=fG l i b3
    rw [Int.toNat_natCast] at hgr
    obtain⟨a1,a2⟩:=gr_in hg b3
    have hbd:=hD.bd i
    have k108:=ok108 (l.getD i g0) a1 a2
    have hro:(aE out).getD i []=[.int .i64 (out.getD i 0)]:=by simp [aE,List.getD_eq_getElem?_getD,show i<out.length by omega]
    have hst:bstF l out k (i+1)=bif decide ((bstF l out k i).2<lefF l out k i) then((i:Int),lefF l out k i) else bstF l out k i:=rfl
    have hlf:lefF l out k i=bif k==0 then excF (l.getD i g0)-out.getD i 0 else(l.getD i g0).chg-out.getD i 0:=rfl
    have hex:0<=excF (l.getD i g0)/\excF (l.getD i g0)<=64:=by
     unfold excF
     by_cases e:(l.getD i g0).chg<=(l.getD i g0).pro
     ·rw [decide_eq_true e,cond_true];omega
     ·rw [decide_eq_false e,cond_false];omega
    generalize l.getD i g0=g at *
    generalize out.getD i 0=o at *
    generalize bstF l out k i=q at *
    obtain⟨best,most⟩:=q
    dsimp only at *
    by_cases k0:k=0
    ·subst k0
     rw [show((0:Nat)==0)=true from rfl,cond_true] at hlf
     generalize excF g=ex at *
     rw [hlf] at hst
     by_cases hlt:most<ex-o
     ·rw [decide_eq_true hlt,cond_true] at hst
      refine Wy ?_
      refine Le (i+1) (hv:=?_)
      simp only [hst]
      exact Vr [_]
     ·rw [decide_eq_false hlt,cond_false] at hst
      refine Wy ?_
      refine Le (i+1) (hv:=?_)
      simp only [hst]
      exact Vr [_]
    ·rw [beq_eq_false_iff_ne.2 k0,cond_false] at hlf
     rw [hlf] at hst
     by_cases hlt:most<g.chg-o
     ·rw [decide_eq_true hlt,cond_true] at hst
      refine Wy ?_
      refine Le (i+1) (hv:=?_)
      simp only [hst]
      exact Vr [_]
     ·rw [decide_eq_false hlt,cond_false] at hst
      refine Wy ?_
      refine Le (i+1) (hv:=?_)
      simp only [hst]
      exact Vr [_]
   obtain rfl:i=l.length:=by omega
   have hst:divN l k (m+1) out=bif decide ((bstF l out k l.length).1<0) then(out,m+1) else divN l k m (out.set (bstF l out k l.length).1.toNat (out.getD (bstF l out k l.length).1.toNat 0+1)):=rfl
   have hnx:=hD.next (bstF l out k l.length).1.toNat
   generalize(bstF l out k l.length).1=best at *
   by_cases hb:best<0
   ·rw [decide_eq_true hb,cond_true] at hst
    rw [hst] at hm
    subst hm
    refine Wy ?_
    refine Le (k+1) (hv:=?_)
    simp only [hQ]
    exact Vr [_]
   ·rw [decide_eq_false hb,cond_false] at hst
    rw [hst] at hm
    obtain⟨j,rfl⟩:∃j:Nat,best=(j:Int):=⟨best.toNat,by omega⟩
    rw [Int.toNat_natCast] at hm hnx
    have hbd:=hD.bd j
    have hro:(aE out).getD j []=[.int .i64 (out.getD j 0)]:=by simp [aE,List.getD_eq_getElem?_getD,show j<out.length by omega]
    have hse:(aE out).set j [V.int .i64 (out.getD j 0+1)]=aE (out.set j (out.getD j 0+1)):=by unfold aE;rw [List.map_set]
    generalize out.getD j 0=o at *
    refine Wy ?_
    refine Le (m,out.set j (o+1)) (hI:=⟨hnx,hm⟩) (hv:=?_)
    simp only [<-hse]
    exact Vr [_]
  ·obtain rfl:m=0:=by omega
   have hm:Q=(out,0):=hm
   subst hm
   refine Wy ?_
   refine Le (k+1) (hv:=?_)
   simp only [hQ]
   exact Vr [_]
 obtain rfl:k=2:=by omega
 have hlen:=hP.len
 generalize divP l n 2=P at *
 exact jR
end Go.Proofs.YtmhapcbjjpadnaaGreat
namespace Go.Proofs.YtmhapcbjjpadnaaGreat
open Go Go.Sk Go.RowKit
theorem aH9.bGB {l:Ls} (h:aH9 l):∀n,aH9 (bGB n l)/\((YtmhapcbjjpadnaaGreat.bGB n l).A++(YtmhapcbjjpadnaaGreat.bGB n l).I).Perm (l.A++l.I):=λn=>by
 induction n generalizing l with
 |zero=>exact⟨h,List.Perm.refl _⟩
 |succ n ih=>
  rw [YtmhapcbjjpadnaaGreat.bGB]
  by_cases hc:(l.A.length:Int)<=l.I.length
  ·rw [show decide ((l.A.length:Int)<=l.I.length)=true by simpa using hc];exact⟨h,List.Perm.refl _⟩
  ·rw [show decide ((l.A.length:Int)<=l.I.length)=false by simpa using hc]
   have h0:0<l.A.length:=by omega
   have :=ih (h.bal h0)
   exact⟨this.1,this.2.trans (balS_perm h0)⟩
theorem aH9.bOK {l:Ls} (h:aH9 l):aH9 (bOK l)/\((YtmhapcbjjpadnaaGreat.bOK l).A++(YtmhapcbjjpadnaaGreat.bOK l).I).Perm (l.A++l.I):=by
 rw [YtmhapcbjjpadnaaGreat.bOK,(gL l).2 h]
 exact h.bGB _
structure ScK(l:Ls)(s:ScS):Prop where
 perm:s.I.Perm l.I
 asc:s.R.Pairwise (·< ·)
 sub:∀x∈s.R,x∈l.R
theorem ScK.next {l:Ls} (h:aH9 l) {s:ScS} (k:ScK l s)(held:List Int) {f:Int} (hf:f∈l.I):ScK l (bKP l.R held s f):=by
 unfold bKP
 cases decide (f∈held) with
 |true=>exact k
 |false=>
  cases decide (f∈l.R) with
  |true=>
   have hnd:=k.perm.nodup_iff.2 (List.nodup_append.1 h.nodup).2.1
   have hfm:=k.perm.mem_iff.2 hf
   refine⟨?_,aWN k.asc f,λx hx=>k.sub x (fV.1 hx).1⟩
   show(f::wo s.I f).Perm l.I
   rw [show wo s.I f=s.I.erase f from(List.Nodup.erase_eq_filter hnd f).symm]
   exact(List.perm_cons_erase hfm).symm.trans k.perm
  |false=>exact⟨k.perm,k.asc,k.sub⟩
theorem ScK.scan {l:Ls} (h:aH9 l)(held:List Int)(n:Int):∀(r:List Int) (s:ScS),(∀x∈r,x∈l.I)->ScK l s->ScK l (aQ6 l.R held n r s)
 | [],_,_,k=>k
 |f::r,s,hr,k=>by
  rw [aQ6]
  cases decide ((s.v.length:Int)<n) with
  |true=>exact ScK.scan h held n r _ (λx hx=>hr x (by simp [hx])) (k.next h held (hr f (by simp)))
  |false=>exact k
theorem ScK.start {l:Ls} (h:aH9 l):ScK l ⟨l.I,l.R,[]⟩:=⟨List.Perm.refl _,h.asc,λx hx=>hx⟩
theorem aH9.scan {l:Ls} (h:aH9 l)(n:Int)(held:List Int):aH9 (bO7 l n held).1/\((bO7 l n held).1.A++(bO7 l n held).1.I).Perm (l.A++l.I):=by
 have k:=ScK.scan h held n l.I.reverse _ (λx hx=>List.mem_reverse.1 hx) (ScK.start h)
 rw [bO7,(gL l).2 h]
 simp only [Bool.not_true,cond_false]
 generalize aQ6 l.R held n l.I.reverse ⟨l.I,l.R,[]⟩=s at k⊢
 have hp:(l.A++s.I).Perm (l.A++l.I):=List.Perm.append_left _ k.perm
 exact⟨h.of_perm hp k.asc λx hx=>h.sub x (k.sub x hx),hp⟩
theorem scanG_vlen(R0 held:List Int)(n:Int):∀(r:List Int) (s:ScS),(aQ6 R0 held n r s).v.length<=s.v.length+r.length
 | [],s=>Nat.le_refl _
 |f::r,s=>by
  rw [aQ6]
  cases decide ((s.v.length:Int)<n) with
  |false=>simp
  |true=>
   have :=scanG_vlen R0 held n r (bKP R0 held s f)
   have h2:(bKP R0 held s f).v.length<=s.v.length+1:=by
    unfold bKP
    cases decide (f∈held)<;> cases decide (f∈R0)<;> simp
   simp only [cond_true,List.length_cons]
   omega
theorem scanF_vlen {l:Ls} (h:aH9 l)(n:Int)(held:List Int):(bO7 l n held).2.length<=64:=by
 have h64:=h.len
 rw [List.length_append] at h64
 have k:=scanG_vlen l.R held n l.I.reverse ⟨l.I,l.R,[]⟩
 rw [bO7,(gL l).2 h]
 simp only [Bool.not_true,cond_false]
 simp only [List.length_nil,Nat.zero_add,List.length_reverse] at k
 omega
def setLs(c:Dc)(t:Nat)(x:Ls):Dc:=⟨c.fl,c.fr,c.zo,c.gr,c.ls.set t x,c.ck,c.pt⟩
theorem Ok.setLs {c:Dc} (h:Ok c) {t:Nat} {x:Ls} (hx:fJ x=true)(hin:∀y,inL x y->inL (c.ls.getD t l0) y):Ok (setLs c t x):=by
 refine h.same rfl (λ_ _=>rfl) h.file rfl (λ_=>rfl) (λm v hm hv=>?_) rfl rfl (List.length_set ..) (λs hs=>?_) (λs y hy=>?_) rfl h.pt
 ·have :=h.use m v hm hv
  exact⟨this.pg,this.holds,this.rd,this.wr⟩
 ·show fJ ((c.ls.set t x).getD s l0)=true
  by_cases e:s=t
  ·subst e;rw [aJ _ _ _ _ hs];exact hx
  ·rw [getD_set_ne _ _ _ e];exact h.ls s hs
 ·have hy:inL ((c.ls.set t x).getD s l0) y:=hy
  by_cases e:s=t
  ·subst e
   by_cases hs:s<c.ls.length
   ·rw [aJ _ _ _ _ hs] at hy;exact hin y hy
   ·rw [jI _ _ (Nat.le_of_not_lt hs)] at hy;exact hy
  ·rw [getD_set_ne _ _ _ e] at hy;exact hy
def heldF(c:Dc):Nat->List Int
 |0=> []
 |k+1=>bif evaF (c.fr.getD k none) then heldF c k else heldF c k++ [((k+1:Nat):Int)]
theorem heldF_len(c:Dc):∀k,(heldF c k).length<=k
 |0=>Nat.le_refl _
 |k+1=>by
  have ih:=heldF_len c k
  rw [heldF]
  cases evaF (c.fr.getD k none) with
  |true=>rw [cond_true];omega
  |false=>rw [cond_false,List.length_append];simp;omega
def balC(c:Dc)(t:Nat):Ls:=bOK (c.ls.getD t l0)
def scanQ(c:Dc)(t:Nat):Ls×List Int:=bO7 (balC c t) ((balC c t).I.length:Int) (heldF c c.fr.length)
theorem scanQ_ok {c:Dc} (h:Ok c) {t:Nat} (ht:t<c.ls.length):aH9 (balC c t)/\(scanQ c t).2.length<=64/\Ok (setLs c t (scanQ c t).1)/\aH9 (scanQ c t).1:=by
 have hc:=(gL _).1 (h.ls t ht)
 obtain⟨b1,b2⟩:=hc.bOK
 obtain⟨s1,s2⟩:=b1.scan ((balC c t).I.length:Int) (heldF c c.fr.length)
 refine⟨b1,scanF_vlen b1 _ _,h.setLs ((gL _).2 s1) λy hy=>?_,s1⟩
 have hp:=s2.trans b2
 have :y∈(bO7 (balC c t) ((balC c t).I.length:Int) (heldF c c.fr.length)).1.A++(bO7 (balC c t) ((balC c t).I.length:Int) (heldF c c.fr.length)).1.I:=List.mem_append.2 hy
 exact List.mem_append.1 (hp.mem_iff.1 this)
def vicI(n:Int)(v:List Int)(s:Dc×Int):Nat->Dc×Int
 |0=>s
 |i+1=>bif decide ((vicI n v s i).2<n) then(bif (evG (vicI n v s i).1 (v.getD i 0)).2==0 then((evG (vicI n v s i).1 (v.getD i 0)).1,(vicI n v s i).2+1) else vicI n v s i) else vicI n v s i
def actI(n:Int)(a:List Int)(s:Dc×Int):Nat->Dc×Int
 |0=>s
 |i+1=>bif decide ((actI n a s i).2<n) then(bif evaF ((actI n a s i).1.fr.getD (a.getD (a.length-1-i) 0-1).toNat none) then((evG (actI n a s i).1 (a.getD (a.length-1-i) 0)).1,(actI n a s i).2+1) else actI n a s i) else actI n a s i
def passI(c:Dc)(t:Nat)(n:Int):Nat->Dc×Int
 |0=>(c,0)
 |k+1=>bif decide ((passI c t n k).2<n) then vicI n (scanQ (passI c t n k).1 t).2 (setLs (passI c t n k).1 t (scanQ (passI c t n k).1 t).1,(passI c t n k).2) (scanQ (passI c t n k).1 t).2.length else passI c t n k
def trimF(c:Dc)(t:Nat)(n:Int):Dc×Int:=bif decide (n<1) then(c,0) else actI n ((passI c t n 2).1.ls.getD t l0).A (passI c t n 2) ((passI c t n 2).1.ls.getD t l0).A.length
structure TrI(c:Dc)(s:Dc×Int)(b:Int):Prop where
 ok:Ok s.1
 sh:Sh c s.1
 lo:0<=s.2
 hi:s.2<=b
theorem TrI.wid {c:Dc} {s:Dc×Int} {b b':Int} (h:TrI c s b)(e:b<=b'):TrI c s b':=⟨h.ok,h.sh,h.lo,by have :=h.hi;omega⟩
theorem TrI.ev {c:Dc} {s:Dc×Int} {b:Int} (h:TrI c s b)(x:Int):TrI c ((evG s.1 x).1,s.2+1) (b+1):=by
 obtain⟨o,sh⟩:=(oP.ev s.1 x).sh h.ok
 have :=h.lo;have :=h.hi
 exact⟨o,h.sh.trans sh,by dsimp only;omega,by dsimp only;omega⟩
theorem vicI_ok {c:Dc} {n:Int} {v:List Int} {s:Dc×Int} {b:Int} (h:TrI c s b):∀i,TrI c (vicI n v s i) (b+i)
 |0=>h.wid (by omega)
 |i+1=>by
  have ih:=vicI_ok (n:=n) (v:=v) h i
  rw [vicI]
  cases decide ((vicI n v s i).2<n) with
  |false=>exact ih.wid (by omega)
  |true=>
   rw [cond_true]
   cases((evG (vicI n v s i).1 (v.getD i 0)).2==0) with
   |false=>exact ih.wid (by omega)
   |true=>exact(ih.ev _).wid (by omega)
theorem vicI_stop {n:Int} {v:List Int} {s:Dc×Int} {i:Nat} (h:¬(vicI n v s i).2<n):∀j,i<=j->vicI n v s j=vicI n v s i
 |0,hj=>by
  obtain rfl:i=0:=by omega
  rfl
 |j+1,hj=>by
  by_cases e:i=j+1
  ·rw [e]
  ·rw [vicI,vicI_stop h j (by omega),decide_eq_false h,cond_false]
theorem actI_ok {c:Dc} {n:Int} {a:List Int} {s:Dc×Int} {b:Int} (h:TrI c s b):∀i,TrI c (actI n a s i) (b+i)
 |0=>h.wid (by omega)
 |i+1=>by
  have ih:=actI_ok (n:=n) (a:=a) h i
  rw [actI]
  cases decide ((actI n a s i).2<n) with
  |false=>exact ih.wid (by omega)
  |true=>
   rw [cond_true]
   cases evaF ((actI n a s i).1.fr.getD (a.getD (a.length-1-i) 0-1).toNat none) with
   |false=>exact ih.wid (by omega)
   |true=>exact(ih.ev _).wid (by omega)
theorem actI_stop {n:Int} {a:List Int} {s:Dc×Int} {i:Nat} (h:¬(actI n a s i).2<n):∀j,i<=j->actI n a s j=actI n a s i
 |0,hj=>by
  obtain rfl:i=0:=by omega
  rfl
 |j+1,hj=>by
  by_cases e:i=j+1
  ·rw [e]
  ·rw [actI,actI_stop h j (by omega),decide_eq_false h,cond_false]
theorem passI_ok {c:Dc} (h:Ok c) {t:Nat} (ht:t<c.gr.length)(n:Int):∀k,TrI c (passI c t n k) (64*k)
 |0=>⟨h,Sh.refl c,Int.le_refl _,by show(0:Int)<=_;omega⟩
 |k+1=>by
  have ih:=passI_ok h ht n k
  rw [passI]
  cases decide ((passI c t n k).2<n) with
  |false=>exact ih.wid (by omega)
  |true=>
   rw [cond_true]
   have hl:t< (passI c t n k).1.ls.length:=by rw [ih.ok.nl,ih.sh.gr];exact ht
   obtain⟨-,q2,q3,-⟩:=scanQ_ok ih.ok hl
   have k0:TrI c (setLs (passI c t n k).1 t (scanQ (passI c t n k).1 t).1,(passI c t n k).2) (64*k):=⟨q3,ih.sh.trans ⟨rfl,rfl,rfl,rfl⟩,ih.lo,ih.hi⟩
   exact(vicI_ok k0 _).wid (by omega)
theorem passI_stop {c:Dc} {t:Nat} {n:Int} {i:Nat} (h:¬(passI c t n i).2<n):∀j,i<=j->passI c t n j=passI c t n i
 |0,hj=>by
  obtain rfl:i=0:=by omega
  rfl
 |j+1,hj=>by
  by_cases e:i=j+1
  ·rw [e]
  ·rw [passI,passI_stop h j (by omega),decide_eq_false h,cond_false]
theorem trimF_ok {c:Dc} (h:Ok c) {t:Nat} (ht:t<c.gr.length)(n:Int):TrI c (trimF c t n) 200:=by
 unfold trimF
 cases decide (n<1) with
 |true=>exact⟨h,Sh.refl c,Int.le_refl _,by show(0:Int)<=200;omega⟩
 |false=>
  rw [cond_false]
  have p:=passI_ok h ht n 2
  have hl:t< (passI c t n 2).1.ls.length:=by rw [p.ok.nl,p.sh.gr];exact ht
  have h64:=((gL _).1 (p.ok.ls t hl)).len
  rw [List.length_append] at h64
  exact(actI_ok p _).wid (by omega)
end Go.Proofs.YtmhapcbjjpadnaaGreat
