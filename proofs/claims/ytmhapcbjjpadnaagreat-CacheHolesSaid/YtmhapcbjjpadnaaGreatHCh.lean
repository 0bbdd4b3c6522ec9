/- Caches. -/
import Derived.Test.YtmhapcbjjpadnaaGreatHBh
set_option linter.all false
set_option maxHeartbeats 16000000
set_option maxRecDepth 40000
namespace Go.Proofs.YtmhapcbjjpadnaaGreat
open Go Go.Sk Go.RowKit
noncomputable def R17:Rsv Tryz.prog Tryz.f17 [.s 75,.s 15,.s 40] 3:=⟨_,_,rfl,rfl⟩
theorem ok17(c:Dc)(h:Ok c)(t:Nat)(ht:t<c.gr.length)(n:Int)(hn:n<=1000/\-1000<=n):aM Tryz.prog 17 [] [.agg c.c,.int .i64 (t:Int),.int .i64 n] (.tup [.agg (trimF c t n).1.c,.int .i64 (trimF c t n).2]) []:=by
 generalize hq:trimF c t n=q
 unfold trimF at hq
 by_cases h1:n<1
 ·rw [decide_eq_true h1,cond_true] at hq
  subst hq
  refine bE R17 (ob0:= []) Tryz.func17 rfl rfl rfl ?_
  exact jR
 rw [decide_eq_false h1,cond_false] at hq
 refine bE R17 (ob0:= []) Tryz.func17 rfl rfl rfl ?_
 refine Wy ?_
 refine Lp (λk:Nat=>k<=2) (λk=> [(9,.int .i64 (k:Int)),(8,.int .i64 (passI c t n k).2)]) (λk=> [(0,.box (passI c t n k).1.c)]) (λk=>2-k) 0 (Nat.zero_le _) ?_ ?_
 ·exact Vr [_,_]
 intro k hk
 have hP:=passI_ok h ht n k
 have hst:passI c t n (k+1)=bif decide ((passI c t n k).2<n) then vicI n (scanQ (passI c t n k).1 t).2 (setLs (passI c t n k).1 t (scanQ (passI c t n k).1 t).1,(passI c t n k).2) (scanQ (passI c t n k).1 t).2.length else passI c t n k:=rfl
 have hstop:=passI_stop (c:=c) (t:=t) (n:=n) (i:=k)
 generalize hp:passI c t n k=P at *
 obtain⟨d,done⟩:=P
 have hlo:=hP.lo
 have hhi:=hP.hi
 have ok1:=hP.ok
 have hsh:=hP.sh
 dsimp only at hlo hhi ok1 hsh hst hstop⊢
 obtain⟨go,hgo⟩:∃go:Bool,go=decide (k<2/\done<n):=⟨_,rfl⟩
 refine Wy ?_
 refine⟨Unit,λ_=>True,λ_=>⟨[(0,⟨[],true,.agg c.c⟩),(7,⟨[],true,.int .i64 0⟩),(32,⟨[],true,.bool false⟩),(1,⟨[],true,.int .i64 (t:Int)⟩),(2,⟨[],true,.int .i64 n⟩),(3,⟨[],true,.ptr 0 0 0⟩),(6,⟨[],true,.ptr 1 0 0⟩),(8,⟨[],true,.int .i64 done⟩),(9,⟨[],true,.int .i64 (k:Int)⟩),(40,⟨[],true,.bool go⟩)],[(0,.box d.c),(1,.box [.lst 0 true [],.lst 0 true [],.lst 0 true [],.lst 0 true [],.lst 0 true [],.lst 0 true [],.lst 0 true []])],2⟩,?_,λ_ _=>?_⟩
 ·clear hP hst hstop ok1 hsh
  by_cases h2:k<2
  ·by_cases h3:done<n
   ·obtain rfl:go=true:=by rw [hgo];exact decide_eq_true ⟨h2,h3⟩
    refine Wy ?_
    refine⟨(),trivial,?_⟩
    exact Vr [some 0,some 1]
   ·obtain rfl:go=false:=by rw [hgo];exact decide_eq_false λx=>h3 x.2
    refine Wy ?_
    refine⟨(),trivial,?_⟩
    exact Vr [some 0,some 1]
  ·obtain rfl:go=false:=by rw [hgo];exact decide_eq_false λx=>h2 x.1
   refine Wy ?_
   refine⟨(),trivial,?_⟩
   exact Vr [some 0,some 1]
 cases go with
 |true=>
  have hb:=of_decide_eq_true hgo.symm
  have hl:t<d.ls.length:=by rw [ok1.nl,hsh.gr];exact ht
  obtain⟨b1,b2,b3,b4⟩:=scanQ_ok ok1 hl
  have k85:=aL1 d ok1.sm
  unfold Dc.o Dc.ob at k85
  have hgl:=kD d.ls t hl
  have k86:=ok86 (d.ls.getD t l0) (ok1.smL t)
  rw [show bOK (d.ls.getD t l0)=balC d t from rfl] at k86
  have hnr:=ok1.nr
  refine Wy ?_
  refine Lp (λi:Nat=>i<=d.fr.length) (λi=> [(12,.int .i64 ((i+1:Nat):Int)),(11,.sl 8 0 (heldF d i).length)]) (λi=> [(8,.row 1 (aE (heldF d i)))]) (λi=>d.fr.length-i) 0 (Nat.zero_le _) ?_ ?_
  ·exact Vr [some 0,some 1,some 2,some 3,some 4,some 5,some 6,some 18,none]
  intro i hi
  refine Wy ?_
  refine fP (λb=>?_) (λb=>?_)
  ·have b:i<d.fr.length:=by omega
   have hg:=cH d.fr i b
   have hz:=heldF_len d i
   have k87:=ok87 (d.fr.getD i none)
   have hs:heldF d (i+1)=bif evaF (d.fr.getD i none) then heldF d i else heldF d i++ [((i+1:Nat):Int)]:=rfl
   have hra:aE (heldF d i++ [((i+1:Nat):Int)])=aE (heldF d i)++ [[.int .i64 ((i+1:Nat):Int)]]:=by simp [aE]
   generalize heldF d i=H at *
   cases ho:d.fr.getD i none with
   |none=>
    rw [ho] at hg k87 hs
    have hg:(aV d.fr).getD i []=fre.c:=hg
    have k87:aM Tryz.prog 87 [] [.agg fre.c] (.bool false) []:=k87
    rw [show evaF none=false from rfl,cond_false] at hs
    refine Wy ?_
    refine Le (i+1) (hv:=?_)
    simp only [hs,hra,List.length_append]
    exact Vr [_,_,_,_,_,_,_,_,_]
   |some u=>
    rw [ho] at hg k87 hs
    have hg:(aV d.fr).getD i []=u.c:=hg
    have k87:aM Tryz.prog 87 [] [.agg u.c] (.bool (evaF (some u))) []:=k87
    generalize evaF (some u)=y at *
    cases y with
    |true=>
     rw [cond_true] at hs
     refine Wy ?_
     refine Le (i+1) (hv:=?_)
     simp only [hs]
     exact Vr [_,_,_,_,_,_,_,_,_]
    |false=>
     rw [cond_false] at hs
     refine Wy ?_
     refine Le (i+1) (hv:=?_)
     simp only [hs,hra,List.length_append]
     exact Vr [_,_,_,_,_,_,_,_,_]
  obtain rfl:i=d.fr.length:=by omega
  have hz:=heldF_len d d.fr.length
  have k88:=ok88 (balC d t) ((balC d t).I.length:Int) (heldF d d.fr.length) false b1.small (by omega)
  rw [show bO7 (balC d t) ((balC d t).I.length:Int) (heldF d d.fr.length)=scanQ d t from rfl] at k88
  refine Wy ?_
  refine⟨Unit,λ_=>True,λ_=>⟨[(0,⟨[],true,.agg c.c⟩),(7,⟨[],true,.int .i64 0⟩),(32,⟨[],true,.bool false⟩),(1,⟨[],true,.int .i64 (t:Int)⟩),(2,⟨[],true,.int .i64 n⟩),(3,⟨[],true,.ptr 0 0 0⟩),(6,⟨[],true,.ptr 1 0 0⟩),(8,⟨[],true,.int .i64 done⟩),(9,⟨[],true,.int .i64 (k:Int)⟩),(10,⟨[],true,.ptr 7 0 0⟩),(71,⟨[],true,.agg (balC d t).c⟩),(74,⟨[],true,.int .i64 ((balC d t).I.length:Int)⟩),(75,⟨[],true,.lst 1 false (aE (heldF d d.fr.length))⟩)],[(0,.box [.sl 2 0 d.fl.length,.sl 3 0 d.fr.length,.lst 6 false (aQ d.zo),.sl 4 0 d.gr.length,.sl 5 0 d.ls.length,.sl 6 0 d.ck.length,.lst 5 false (aY d.pt)]),(1,.box [.lst 0 true [],.lst 0 true [],.lst 0 true [],.lst 0 true [],.lst 0 true [],.lst 0 true [],.lst 0 true []]),(2,.row 15 (bA d.fl)),(3,.row 9 (aV d.fr)),(4,.row 3 (bC d.gr)),(5,.row 3 (bW d.ls)),(6,.row 1 (aE d.ck)),(7,.box (balC d t).c)],8⟩,?_,λ_ _=>?_⟩
  ·refine Wy ?_
   refine⟨(),trivial,?_⟩
   exact Vr [some 0,some 1,some 2,some 3,some 4,some 5,some 6,some 7]
  have hV:(aE (scanQ d t).2).length=(scanQ d t).2.length:=aA _
  have hset:(bW d.ls).set t (aU 3 (d.ls.getD t l0).c 0 (scanQ d t).1.c)=bW (setLs d t (scanQ d t).1).ls:=pR d.ls t (scanQ d t).1
  rw [decide_eq_true hb.2,cond_true] at hst
  have k0:TrI c (setLs d t (scanQ d t).1,done) (64*k):=⟨b3,hsh.trans ⟨rfl,rfl,rfl,rfl⟩,hlo,hhi⟩
  refine Wy ?_
  refine⟨Unit,λ_=>True,λ_=>⟨[(0,⟨[],true,.agg c.c⟩),(7,⟨[],true,.int .i64 0⟩),(32,⟨[],true,.bool false⟩),(1,⟨[],true,.int .i64 (t:Int)⟩),(2,⟨[],true,.int .i64 n⟩),(3,⟨[],true,.ptr 0 0 0⟩),(6,⟨[],true,.ptr 1 0 0⟩),(8,⟨[],true,.int .i64 done⟩),(9,⟨[],true,.int .i64 (k:Int)⟩),(14,⟨[],true,.lst 1 false (aE (scanQ d t).2)⟩),(15,⟨[],true,.int .i64 0⟩)],[(0,.box [.lst 15 false (bA d.fl),.lst 9 false (aV d.fr),.lst 6 false (aQ d.zo),.lst 3 false (bC d.gr),.lst 3 false (bW (setLs d t (scanQ d t).1).ls),.lst 1 false (aE d.ck),.lst 5 false (aY d.pt)]),(1,.box [.lst 0 true [],.lst 0 true [],.lst 0 true [],.lst 0 true [],.lst 0 true [],.lst 0 true [],.lst 0 true []])],2⟩,?_,λ_ _=>?_⟩
  ·refine Wy ?_
   refine⟨(),trivial,?_⟩
   simp only [<-hset]
   exact Vr [some 0,some 1]
  refine Wy ?_
  refine Lp (λi:Nat=>i<=(scanQ d t).2.length) (λi=> [(15,.int .i64 (i:Int)),(8,.int .i64 (vicI n (scanQ d t).2 (setLs d t (scanQ d t).1,done) i).2)]) (λi=> [(0,.box [.lst 15 false (bA (vicI n (scanQ d t).2 (setLs d t (scanQ d t).1,done) i).1.fl),.lst 9 false (aV (vicI n (scanQ d t).2 (setLs d t (scanQ d t).1,done) i).1.fr),.lst 6 false (aQ (vicI n (scanQ d t).2 (setLs d t (scanQ d t).1,done) i).1.zo),.lst 3 false (bC (vicI n (scanQ d t).2 (setLs d t (scanQ d t).1,done) i).1.gr),.lst 3 false (bW (vicI n (scanQ d t).2 (setLs d t (scanQ d t).1,done) i).1.ls),.lst 1 false (aE (vicI n (scanQ d t).2 (setLs d t (scanQ d t).1,done) i).1.ck),.lst 5 false (aY (vicI n (scanQ d t).2 (setLs d t (scanQ d t).1,done) i).1.pt)])]) (λi=>(scanQ d t).2.length-i) 0 (Nat.zero_le _) ?_ ?_
  ·exact Vr [_,_]
  intro i hi
  have hs:=vicI_ok (n:=n) (v:=(scanQ d t).2) k0 i
  have hsi:vicI n (scanQ d t).2 (setLs d t (scanQ d t).1,done) (i+1)=bif decide ((vicI n (scanQ d t).2 (setLs d t (scanQ d t).1,done) i).2<n) then(bif (evG (vicI n (scanQ d t).2 (setLs d t (scanQ d t).1,done) i).1 ((scanQ d t).2.getD i 0)).2==0 then((evG (vicI n (scanQ d t).2 (setLs d t (scanQ d t).1,done) i).1 ((scanQ d t).2.getD i 0)).1,(vicI n (scanQ d t).2 (setLs d t (scanQ d t).1,done) i).2+1) else vicI n (scanQ d t).2 (setLs d t (scanQ d t).1,done) i) else vicI n (scanQ d t).2 (setLs d t (scanQ d t).1,done) i:=rfl
  have hstop2:=vicI_stop (n:=n) (v:=(scanQ d t).2) (s:=(setLs d t (scanQ d t).1,done)) (i:=i)
  clear hset k88
  generalize hs1:vicI n (scanQ d t).2 (setLs d t (scanQ d t).1,done) (i+1)=S' at *
  generalize hs0:vicI n (scanQ d t).2 (setLs d t (scanQ d t).1,done) i=S at *
  obtain⟨e,dn⟩:=S
  have hlo2:=hs.lo
  have hhi2:=hs.hi
  have ok2:=hs.ok
  dsimp only at hlo2 hhi2 ok2 hsi hstop2⊢
  by_cases hb2:i< (scanQ d t).2.length/\dn<n
  ·have hgv:(aE (scanQ d t).2).getD i []=[.int .i64 ((scanQ d t).2.getD i 0)]:=aZU hb2.1
   have k43:=bJC e ok2 ((scanQ d t).2.getD i 0)
   rw [decide_eq_true hb2.2,cond_true] at hsi
   generalize evG e ((scanQ d t).2.getD i 0)=q2 at *
   obtain⟨e2,y2⟩:=q2
   dsimp only at hsi k43
   by_cases hy:y2=0
   ·rw [beq_iff_eq.2 hy,cond_true] at hsi
    refine Wy ?_
    refine⟨Unit,λ_=>True,λ_=>⟨[(15,⟨[],true,.int .i64 ((i+1:Nat):Int)⟩),(8,⟨[],true,.int .i64 (dn+1)⟩),(0,⟨[],true,.agg c.c⟩),(7,⟨[],true,.int .i64 0⟩),(32,⟨[],true,.bool false⟩),(1,⟨[],true,.int .i64 (t:Int)⟩),(2,⟨[],true,.int .i64 n⟩),(3,⟨[],true,.ptr 0 0 0⟩),(6,⟨[],true,.ptr 1 0 0⟩),(9,⟨[],true,.int .i64 (k:Int)⟩),(14,⟨[],true,.lst 1 false (aE (scanQ d t).2)⟩)],[(0,.box e2.c),(1,.box [.lst 0 true [],.lst 0 true [],.lst 0 true [],.lst 0 true [],.lst 0 true [],.lst 0 true [],.lst 0 true []])],2⟩,?_,λ_ _=>?_⟩
    ·refine Wy ?_
     refine⟨(),trivial,?_⟩
     exact Vr [_,_]
    refine Wy ?_
    refine Le (i+1) (hv:=?_)
    simp only [hs1,hsi]
    exact Vr [_,_]
   ·rw [beq_eq_false_iff_ne.2 hy,cond_false] at hsi
    refine Wy ?_
    refine⟨Unit,λ_=>True,λ_=>⟨[(15,⟨[],true,.int .i64 ((i+1:Nat):Int)⟩),(8,⟨[],true,.int .i64 dn⟩),(0,⟨[],true,.agg c.c⟩),(7,⟨[],true,.int .i64 0⟩),(32,⟨[],true,.bool false⟩),(1,⟨[],true,.int .i64 (t:Int)⟩),(2,⟨[],true,.int .i64 n⟩),(3,⟨[],true,.ptr 0 0 0⟩),(6,⟨[],true,.ptr 1 0 0⟩),(9,⟨[],true,.int .i64 (k:Int)⟩),(14,⟨[],true,.lst 1 false (aE (scanQ d t).2)⟩)],[(0,.box e.c),(1,.box [.lst 0 true [],.lst 0 true [],.lst 0 true [],.lst 0 true [],.lst 0 true [],.lst 0 true [],.lst 0 true []])],2⟩,?_,λ_ _=>?_⟩
    ·refine Wy ?_
     refine⟨(),trivial,?_⟩
     exact Vr [_,_]
    refine Wy ?_
    refine Le (i+1) (hv:=?_)
    simp only [hs1,hsi]
    exact Vr [_,_]
  ·have hfin:passI c t n (k+1)=(e,dn):=by
    rw [hst]
    by_cases hd:dn<n
    ·obtain rfl:i=(scanQ d t).2.length:=by omega
     exact hs0
    ·exact(hstop2 hd _ hi).trans rfl
   clear hst hstop2
   by_cases hi2:i< (scanQ d t).2.length
   ·refine Wy ?_
    refine Le (k+1) (hv:=?_)
    simp only [hfin]
    exact Vr [_,_]
   ·refine Wy ?_
    refine Le (k+1) (hv:=?_)
    simp only [hfin]
    exact Vr [_,_]
 |false=>
  have hb:=of_decide_eq_false hgo.symm
  have hfin:passI c t n 2=(d,done):=by
   by_cases hd:done<n
   ·obtain rfl:k=2:=by omega
    exact hp
   ·exact hstop hd 2 hk
  rw [hfin] at hq
  dsimp only at hq
  have hl:t<d.ls.length:=by rw [ok1.nl,hsh.gr];exact ht
  have hgl:=kD d.ls t hl
  have h64:=((gL _).1 (ok1.ls t hl)).len
  rw [List.length_append] at h64
  have hAl:(aE (d.ls.getD t l0).A).length=(d.ls.getD t l0).A.length:=aA _
  have hmem:=λx=>ok1.mem t x hl
  generalize d.ls.getD t l0=L at *
  obtain⟨A,LI,LR⟩:=L
  dsimp only at *
  have hk0:TrI c (d,done) (64*k):=hP
  clear hst hstop hfin hp
  refine Wy ?_
  refine Lp (λi:Nat=>i<=A.length) (λi=> [(19,.int .i64 ((A.length:Int)-1- (i:Int))),(8,.int .i64 (actI n A (d,done) i).2)]) (λi=> [(0,.box (actI n A (d,done) i).1.c)]) (λi=>A.length-i) 0 (Nat.zero_le _) ?_ ?_
  ·simp only [Int.natCast_zero,Int.sub_zero]
   exact Vr [_,_,_]
  intro i hi
  have hs:=actI_ok (n:=n) (a:=A) hk0 i
  have hsi:actI n A (d,done) (i+1)=bif decide ((actI n A (d,done) i).2<n) then(bif evaF ((actI n A (d,done) i).1.fr.getD (A.getD (A.length-1-i) 0-1).toNat none) then((evG (actI n A (d,done) i).1 (A.getD (A.length-1-i) 0)).1,(actI n A (d,done) i).2+1) else actI n A (d,done) i) else actI n A (d,done) i:=rfl
  have hstop2:=actI_stop (n:=n) (a:=A) (s:=(d,done)) (i:=i)
  generalize hs1:actI n A (d,done) (i+1)=S' at *
  generalize hs0:actI n A (d,done) i=S at *
  obtain⟨e,dn⟩:=S
  have hlo2:=hs.lo
  have hhi2:=hs.hi
  have ok2:=hs.ok
  have hfr2:e.fr.length=d.fr.length:=by rw [hs.sh.fr,hsh.fr]
  dsimp only at hlo2 hhi2 ok2 hsi hstop2⊢
  by_cases hb3:i<A.length/\dn<n
  ·obtain⟨hb31,hb32⟩:=hb3
   rw [show(A.length:Int)-1- (i:Int)=((A.length-1-i:Nat):Int) by omega]
   have hgv:(aE A).getD (A.length-1-i) []=[.int .i64 (A.getD (A.length-1-i) 0)]:=aZU (by omega)
   have hin:A.getD (A.length-1-i) 0∈A:=by
    rw [List.getD_eq_getElem?_getD,List.getElem?_eq_getElem (show A.length-1-i<A.length by omega)]
    exact List.getElem_mem _
   obtain⟨m,u,m1,m2,m3,m4⟩:=hmem _ (.inl hin)
   have k43:=bJC e ok2 (A.getD (A.length-1-i) 0)
   rw [decide_eq_true hb32,cond_true] at hsi
   generalize A.getD (A.length-1-i) 0=x at *
   subst m2
   rw [show(((m+1:Nat):Int)-1).toNat=m by omega] at hsi
   have hgu:=cH e.fr m (by omega)
   have hnr2:=ok2.nr
   have k87:=ok87 (e.fr.getD m none)
   generalize evG e ((m+1:Nat):Int)=q2 at *
   obtain⟨e2,y2⟩:=q2
   dsimp only at hsi k43
   cases ho:e.fr.getD m none with
   |none=>
    rw [ho] at hgu k87 hsi
    have hgu:(aV e.fr).getD m []=fre.c:=hgu
    have k87:aM Tryz.prog 87 [] [.agg fre.c] (.bool false) []:=k87
    rw [show evaF none=false from rfl,cond_false] at hsi
    refine Wy ?_
    refine Le (i+1) (hI:=?_) (hm:=?_) (hv:=?_)
    ·exact hb31
    ·simp only [hs1,hsi]
     exact Vr [_,_,_]
    ·exact Nat.sub_succ_lt_self _ _ hb31
   |some w=>
    rw [ho] at hgu k87 hsi
    have hgu:(aV e.fr).getD m []=w.c:=hgu
    have k87:aM Tryz.prog 87 [] [.agg w.c] (.bool (evaF (some w))) []:=k87
    generalize evaF (some w)=y at *
    cases y with
    |true=>
     rw [cond_true] at hsi
     refine Wy ?_
     refine Le (i+1) (hI:=?_) (hm:=?_) (hv:=?_)
     ·exact hb31
     ·simp only [hs1,hsi]
      exact Vr [_,_,_]
     ·exact Nat.sub_succ_lt_self _ _ hb31
    |false=>
     rw [cond_false] at hsi
     refine Wy ?_
     refine Le (i+1) (hI:=?_) (hm:=?_) (hv:=?_)
     ·exact hb31
     ·simp only [hs1,hsi]
      exact Vr [_,_,_]
     ·exact Nat.sub_succ_lt_self _ _ hb31
  ·have hfin2:actI n A (d,done) A.length=(e,dn):=by
    by_cases hd:dn<n
    ·obtain rfl:i=A.length:=by omega
     exact hs0
    ·exact(hstop2 hd _ hi).trans rfl
   rw [hfin2] at hq
   subst hq
   by_cases hi2:i<A.length
   ·have hdn2:¬dn<n:=λx=>hb3 ⟨hi2,x⟩
    exact jR
   ·exact jR
end Go.Proofs.YtmhapcbjjpadnaaGreat
