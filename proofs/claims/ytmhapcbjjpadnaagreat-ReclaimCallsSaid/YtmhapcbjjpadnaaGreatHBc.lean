/- Caches. -/
import Derived.Test.YtmhapcbjjpadnaaGreatHAc
set_option linter.all false
set_option maxHeartbeats 16000000
set_option maxRecDepth 40000
open List renaming length_append→zD
open Nat renaming zero_le→zA,sub_succ_lt_self→zC
namespace Go.Proofs.YtmhapcbjjpadnaaGreat
open Go Go.Sk Go.RowKit
noncomputable def R17:Rsv Tryz.prog Tryz.f17 [.s 75,.s 15,.s 40] 3:=⟨_,_,rfl,rfl⟩
theorem bJR(c:Dc)(h:Ok c)(t:Nat)(ht:t<c.gr.length)(n:Int)(hn:n<=4611686018427387904/\-1000<=n):aM Tryz.prog 17 [] [.agg c.c,.int .i64 (t:Int),.int .i64 n] (.tup [.agg (jU c t n).1.c,.int .i64 (jU c t n).2]) []:=by
 generalize W:jU c t n=q;unfold jU at W
 by_cases h1:n<1
 ·rw [zdt h1,zct] at W;subst W;refine fnZ R17 Tryz.func17 ?_;exact kK
 rw [zdf h1,zcf] at W;refine fnZ R17 Tryz.func17 ?_;refine Wy ?_;refine Lp (λk:Nat=>k<=2) (λk=> [(9,.int .i64 (k:Int)),(8,.int .i64 (cS c t n k).2)]) (λk=> [(0,.box (cS c t n k).1.c)]) (λk=>2-k) 0 (zA _) ?_ ?_
 ·exact Vr [_,_]
 intro k hk;have hP:=uN h ht n k;have M:cS c t n (k+1)=bif decide ((cS c t n k).2<n) then iH n (aW (cS c t n k).1 t).2 (cB (cS c t n k).1 t (aW (cS c t n k).1 t).1,(cS c t n k).2) (aW (cS c t n k).1 t).2.length else cS c t n k:=rfl
 have D:=aI0 (c:=c) (t:=t) (n:=n) (i:=k);generalize hp:cS c t n k=P at *;obtain⟨d,done⟩:=P;have ai:=hP.lo;have ag:=hP.hi;have B:=hP.ok;have K:=hP.sh;dsimp only at ai ag B K M D⊢;obtain⟨Z,O⟩:∃Z:Bool,Z=decide (k<2/\done<n):=⟨_,rfl⟩;refine Wy ?_
 refine⟨Unit,λ_=>True,λ_=>⟨[(0,⟨[],true,.agg c.c⟩),(7,⟨[],true,.int .i64 0⟩),(32,⟨[],true,.bool false⟩),(1,⟨[],true,.int .i64 (t:Int)⟩),(2,⟨[],true,.int .i64 n⟩),(3,⟨[],true,.ptr 0 0 0⟩),(6,⟨[],true,.ptr 1 0 0⟩),(8,⟨[],true,.int .i64 done⟩),(9,⟨[],true,.int .i64 (k:Int)⟩),(40,⟨[],true,.bool Z⟩)],[(0,.box d.c),(1,.box [.lst 0 true [],.lst 0 true [],.lst 0 true [],.lst 0 true [],.lst 0 true [],.lst 0 true [],.lst 0 true []])],2⟩,?_,λ_ _=>?_⟩
 ·clear hP M D B K
  by_cases h2:k<2
  ·by_cases h3:done<n
   ·obtain rfl:Z=true:=by rw [O];exact zdt ⟨h2,h3⟩
    refine Wy ?_;refine⟨(),trivial,?_⟩;exact Vr [some 0,some 1]
   ·obtain rfl:Z=false:=by rw [O];exact zdf λx=>h3 x.2
    refine Wy ?_;refine⟨(),trivial,?_⟩;exact Vr [some 0,some 1]
  ·obtain rfl:Z=false:=by rw [O];exact zdf λx=>h2 x.1
   refine Wy ?_;refine⟨(),trivial,?_⟩;exact Vr [some 0,some 1]
 cases Z with
 |true=>
  have hb:=of_decide_eq_true O.symm;have hl:t<d.ls.length:=by rw [B.nl,K.gr];exact ht
  obtain⟨b1,b2,b3,b4⟩:=uT B hl;have au:=aIV d B.sm;unfold Dc.o Dc.ob at au;have ao:=eC d.ls t hl;have av:=bTI (d.ls.getD t l0) (B.smL t);rw [show tK (d.ls.getD t l0)=gX d t from rfl] at av;have a0:=B.nr;refine Wy ?_;refine Lp (λi:Nat=>i<=d.fr.length) (λi=> [(12,.int .i64 ((i+1:Nat):Int)),(11,.sl 8 0 (dY d i).length)]) (λi=> [(8,.row 1 (aB (dY d i)))]) (λi=>d.fr.length-i) 0 (zA _) ?_ ?_
  ·exact Vr [some 0,some 1,some 2,some 3,some 4,some 5,some 6,some 18,none]
  intro i hi;refine Wy ?_;refine gE (λb=>?_) (λb=>?_)
  ·have b:i<d.fr.length:=by omega
   have hg:=cC d.fr i b;have hz:=qO d i;have z:=bR3 (d.fr.getD i none);have F:dY d (i+1)=bif lN (d.fr.getD i none) then dY d i else dY d i++ [((i+1:Nat):Int)]:=rfl
   have ak:aB (dY d i++ [((i+1:Nat):Int)])=aB (dY d i)++ [[.int .i64 ((i+1:Nat):Int)]]:=by simp [aB]
   generalize dY d i=H at *
   cases ho:d.fr.getD i none with
   |none=> rw [ho] at hg z F;have hg:(aO d.fr).getD i []=fre.c:=hg;have z:aM Tryz.prog 87 [] [.agg fre.c] (.bool false) []:=z;rw [show lN none=false from rfl,zcf] at F;refine Wy ?_;refine Le (i+1) (hv:=?_);simp only [F,ak,zD];exact Vr [_,_,_,_,_,_,_,_,_]
   |some u=>
    rw [ho] at hg z F;have hg:(aO d.fr).getD i []=u.c:=hg;have z:aM Tryz.prog 87 [] [.agg u.c] (.bool (lN (some u))) []:=z;generalize lN (some u)=y at *
    cases y with
    |true=> rw [zct] at F;refine Wy ?_;refine Le (i+1) (hv:=?_);simp only [F];exact Vr [_,_,_,_,_,_,_,_,_]
    |false=> rw [zcf] at F;refine Wy ?_;refine Le (i+1) (hv:=?_);simp only [F,ak,zD];exact Vr [_,_,_,_,_,_,_,_,_]
  obtain rfl:i=d.fr.length:=by omega
  have hz:=qO d d.fr.length;have al:=bTJ (gX d t) ((gX d t).I.length:Int) (dY d d.fr.length) false b1.small (by omega);rw [show kS (gX d t) ((gX d t).I.length:Int) (dY d d.fr.length)=aW d t from rfl] at al;refine Wy ?_
  refine⟨Unit,λ_=>True,λ_=>⟨[(0,⟨[],true,.agg c.c⟩),(7,⟨[],true,.int .i64 0⟩),(32,⟨[],true,.bool false⟩),(1,⟨[],true,.int .i64 (t:Int)⟩),(2,⟨[],true,.int .i64 n⟩),(3,⟨[],true,.ptr 0 0 0⟩),(6,⟨[],true,.ptr 1 0 0⟩),(8,⟨[],true,.int .i64 done⟩),(9,⟨[],true,.int .i64 (k:Int)⟩),(10,⟨[],true,.ptr 7 0 0⟩),(71,⟨[],true,.agg (gX d t).c⟩),(74,⟨[],true,.int .i64 ((gX d t).I.length:Int)⟩),(75,⟨[],true,.lst 1 false (aB (dY d d.fr.length))⟩)],[(0,.box [.sl 2 0 d.fl.length,.sl 3 0 d.fr.length,.lst 6 false (aK d.zo),.sl 4 0 d.gr.length,.sl 5 0 d.ls.length,.sl 6 0 d.ck.length,.lst 5 false (aN d.pt)]),(1,.box [.lst 0 true [],.lst 0 true [],.lst 0 true [],.lst 0 true [],.lst 0 true [],.lst 0 true [],.lst 0 true []]),(2,.row 15 (aX d.fl)),(3,.row 9 (aO d.fr)),(4,.row 3 (aQ d.gr)),(5,.row 3 (aU d.ls)),(6,.row 1 (aB d.ck)),(7,.box (gX d t).c)],8⟩,?_,λ_ _=>?_⟩
  ·refine Wy ?_;refine⟨(),trivial,?_⟩;exact Vr [some 0,some 1,some 2,some 3,some 4,some 5,some 6,some 7]
  have hV:(aB (aW d t).2).length=(aW d t).2.length:=aA _;have Y:(aU d.ls).set t (aS 3 (d.ls.getD t l0).c 0 (aW d t).1.c)=aU (cB d t (aW d t).1).ls:=iE d.ls t (aW d t).1;rw [zdt hb.2,zct] at M;have k0:TrI c (cB d t (aW d t).1,done) (64*k):=⟨b3,K.trans ⟨rfl,rfl,rfl,rfl⟩,ai,ag⟩;refine Wy ?_
  refine⟨Unit,λ_=>True,λ_=>⟨[(0,⟨[],true,.agg c.c⟩),(7,⟨[],true,.int .i64 0⟩),(32,⟨[],true,.bool false⟩),(1,⟨[],true,.int .i64 (t:Int)⟩),(2,⟨[],true,.int .i64 n⟩),(3,⟨[],true,.ptr 0 0 0⟩),(6,⟨[],true,.ptr 1 0 0⟩),(8,⟨[],true,.int .i64 done⟩),(9,⟨[],true,.int .i64 (k:Int)⟩),(14,⟨[],true,.lst 1 false (aB (aW d t).2)⟩),(15,⟨[],true,.int .i64 0⟩)],[(0,.box [.lst 15 false (aX d.fl),.lst 9 false (aO d.fr),.lst 6 false (aK d.zo),.lst 3 false (aQ d.gr),.lst 3 false (aU (cB d t (aW d t).1).ls),.lst 1 false (aB d.ck),.lst 5 false (aN d.pt)]),(1,.box [.lst 0 true [],.lst 0 true [],.lst 0 true [],.lst 0 true [],.lst 0 true [],.lst 0 true [],.lst 0 true []])],2⟩,?_,λ_ _=>?_⟩
  ·refine Wy ?_;refine⟨(),trivial,?_⟩;simp only [<-Y];exact Vr [some 0,some 1]
  refine Wy ?_
  refine Lp (λi:Nat=>i<=(aW d t).2.length) (λi=> [(15,.int .i64 (i:Int)),(8,.int .i64 (iH n (aW d t).2 (cB d t (aW d t).1,done) i).2)]) (λi=> [(0,.box [.lst 15 false (aX (iH n (aW d t).2 (cB d t (aW d t).1,done) i).1.fl),.lst 9 false (aO (iH n (aW d t).2 (cB d t (aW d t).1,done) i).1.fr),.lst 6 false (aK (iH n (aW d t).2 (cB d t (aW d t).1,done) i).1.zo),.lst 3 false (aQ (iH n (aW d t).2 (cB d t (aW d t).1,done) i).1.gr),.lst 3 false (aU (iH n (aW d t).2 (cB d t (aW d t).1,done) i).1.ls),.lst 1 false (aB (iH n (aW d t).2 (cB d t (aW d t).1,done) i).1.ck),.lst 5 false (aN (iH n (aW d t).2 (cB d t (aW d t).1,done) i).1.pt)])]) (λi=>(aW d t).2.length-i) 0 (zA _) ?_ ?_
  ·exact Vr [_,_]
  intro i hi;have F:=aG3 (n:=n) (v:=(aW d t).2) k0 i;have f:iH n (aW d t).2 (cB d t (aW d t).1,done) (i+1)=bif decide ((iH n (aW d t).2 (cB d t (aW d t).1,done) i).2<n) then(bif (evG (iH n (aW d t).2 (cB d t (aW d t).1,done) i).1 ((aW d t).2.getD i 0)).2==0 then((evG (iH n (aW d t).2 (cB d t (aW d t).1,done) i).1 ((aW d t).2.getD i 0)).1,(iH n (aW d t).2 (cB d t (aW d t).1,done) i).2+1) else iH n (aW d t).2 (cB d t (aW d t).1,done) i) else iH n (aW d t).2 (cB d t (aW d t).1,done) i:=rfl
  have j:=aKP (n:=n) (v:=(aW d t).2) (s:=(cB d t (aW d t).1,done)) (i:=i);clear Y al;generalize J:iH n (aW d t).2 (cB d t (aW d t).1,done) (i+1)=S' at *;generalize ab:iH n (aW d t).2 (cB d t (aW d t).1,done) i=S at *;obtain⟨e,T⟩:=S;have R:=F.lo;have Q:=F.hi;have N:=F.ok;dsimp only at R Q N f j⊢
  by_cases ad:i< (aW d t).2.length/\T<n
  ·have ap:(aB (aW d t).2).getD i []=[.int .i64 ((aW d t).2.getD i 0)]:=aC9 ad.1;have ac:=bAE e N ((aW d t).2.getD i 0);rw [zdt ad.2,zct] at f;generalize evG e ((aW d t).2.getD i 0)=q2 at *;obtain⟨e2,y2⟩:=q2;dsimp only at f ac
   by_cases hy:y2=0
   ·rw [zbe.2 hy,zct] at f;refine Wy ?_
    refine⟨Unit,λ_=>True,λ_=>⟨[(15,⟨[],true,.int .i64 ((i+1:Nat):Int)⟩),(8,⟨[],true,.int .i64 (T+1)⟩),(0,⟨[],true,.agg c.c⟩),(7,⟨[],true,.int .i64 0⟩),(32,⟨[],true,.bool false⟩),(1,⟨[],true,.int .i64 (t:Int)⟩),(2,⟨[],true,.int .i64 n⟩),(3,⟨[],true,.ptr 0 0 0⟩),(6,⟨[],true,.ptr 1 0 0⟩),(9,⟨[],true,.int .i64 (k:Int)⟩),(14,⟨[],true,.lst 1 false (aB (aW d t).2)⟩)],[(0,.box e2.c),(1,.box [.lst 0 true [],.lst 0 true [],.lst 0 true [],.lst 0 true [],.lst 0 true [],.lst 0 true [],.lst 0 true []])],2⟩,?_,λ_ _=>?_⟩
    ·refine Wy ?_;refine⟨(),trivial,?_⟩;exact Vr [_,_]
    refine Wy ?_;refine Le (i+1) (hv:=?_);simp only [J,f];exact Vr [_,_]
   ·rw [zbn.2 hy,zcf] at f;refine Wy ?_
    refine⟨Unit,λ_=>True,λ_=>⟨[(15,⟨[],true,.int .i64 ((i+1:Nat):Int)⟩),(8,⟨[],true,.int .i64 T⟩),(0,⟨[],true,.agg c.c⟩),(7,⟨[],true,.int .i64 0⟩),(32,⟨[],true,.bool false⟩),(1,⟨[],true,.int .i64 (t:Int)⟩),(2,⟨[],true,.int .i64 n⟩),(3,⟨[],true,.ptr 0 0 0⟩),(6,⟨[],true,.ptr 1 0 0⟩),(9,⟨[],true,.int .i64 (k:Int)⟩),(14,⟨[],true,.lst 1 false (aB (aW d t).2)⟩)],[(0,.box e.c),(1,.box [.lst 0 true [],.lst 0 true [],.lst 0 true [],.lst 0 true [],.lst 0 true [],.lst 0 true [],.lst 0 true []])],2⟩,?_,λ_ _=>?_⟩
    ·refine Wy ?_;refine⟨(),trivial,?_⟩;exact Vr [_,_]
    refine Wy ?_;refine Le (i+1) (hv:=?_);simp only [J,f];exact Vr [_,_]
  ·have E:cS c t n (k+1)=(e,T):=by
    rw [M]
    by_cases hd:T<n
    ·obtain rfl:i=(aW d t).2.length:=by omega
     exact ab
    ·exact(j hd _ hi).trans rfl
   clear M j
   by_cases ah:i< (aW d t).2.length
   ·refine Wy ?_;refine Le (k+1) (hv:=?_);simp only [E];exact Vr [_,_]
   ·refine Wy ?_;refine Le (k+1) (hv:=?_);simp only [E];exact Vr [_,_]
 |false=>
  have hb:=of_decide_eq_false O.symm
  have E:cS c t n 2=(d,done):=by
   by_cases hd:done<n
   ·obtain rfl:k=2:=by omega
    exact hp
   ·exact D hd 2 hk
  rw [E] at W;dsimp only at W;have hl:t<d.ls.length:=by rw [B.nl,K.gr];exact ht
  have ao:=eC d.ls t hl;have am:=((bF _).1 (B.ls t hl)).len;rw [zD] at am;have az:(aB (d.ls.getD t l0).A).length=(d.ls.getD t l0).A.length:=aA _;have aj:=λx=>B.mem t x hl;generalize d.ls.getD t l0=L at *;obtain⟨A,LI,LR⟩:=L;dsimp only at *;have ar:TrI c (d,done) (64*k):=hP;clear M D E hp;refine Wy ?_
  refine Lp (λi:Nat=>i<=A.length) (λi=> [(19,.int .i64 ((A.length:Int)-1- (i:Int))),(8,.int .i64 (kC n A (d,done) i).2)]) (λi=> [(0,.box (kC n A (d,done) i).1.c)]) (λi=>A.length-i) 0 (zA _) ?_ ?_
  ·simp only [Int.natCast_zero,Int.sub_zero];exact Vr [_,_,_]
  intro i hi;have F:=aFJ (n:=n) (a:=A) ar i;have f:kC n A (d,done) (i+1)=bif decide ((kC n A (d,done) i).2<n) then(bif lN ((kC n A (d,done) i).1.fr.getD (A.getD (A.length-1-i) 0-1).toNat none) then((evG (kC n A (d,done) i).1 (A.getD (A.length-1-i) 0)).1,(kC n A (d,done) i).2+1) else kC n A (d,done) i) else kC n A (d,done) i:=rfl
  have j:=aJ2 (n:=n) (a:=A) (s:=(d,done)) (i:=i);generalize J:kC n A (d,done) (i+1)=S' at *;generalize ab:kC n A (d,done) i=S at *;obtain⟨e,T⟩:=S;have R:=F.lo;have Q:=F.hi;have N:=F.ok;have ax:e.fr.length=d.fr.length:=by rw [F.sh.fr,K.fr]
  dsimp only at R Q N f j⊢
  by_cases ae:i<A.length/\T<n
  ·obtain⟨C,af⟩:=ae;rw [show(A.length:Int)-1- (i:Int)=((A.length-1-i:Nat):Int) by omega];have ap:(aB A).getD (A.length-1-i) []=[.int .i64 (A.getD (A.length-1-i) 0)]:=aC9 (by omega);have aq:A.getD (A.length-1-i) 0∈A:=by rw [List.getD_eq_getElem?_getD,List.getElem?_eq_getElem (show A.length-1-i<A.length by omega)];exact List.getElem_mem _
   obtain⟨m,u,m1,m2,m3,m4⟩:=aj _ (.inl aq);have ac:=bAE e N (A.getD (A.length-1-i) 0);rw [zdt af,zct] at f;generalize A.getD (A.length-1-i) 0=x at *;subst m2;rw [show(((m+1:Nat):Int)-1).toNat=m by omega] at f;have G:=cC e.fr m (by omega);have ay:=N.nr;have z:=bR3 (e.fr.getD m none);generalize evG e ((m+1:Nat):Int)=q2 at *;obtain⟨e2,y2⟩:=q2;dsimp only at f ac
   cases ho:e.fr.getD m none with
   |none=>
    rw [ho] at G z f;have G:(aO e.fr).getD m []=fre.c:=G;have z:aM Tryz.prog 87 [] [.agg fre.c] (.bool false) []:=z;rw [show lN none=false from rfl,zcf] at f;refine Wy ?_;refine Le (i+1) (hI:=?_) (hm:=?_) (hv:=?_)
    ·exact C
    ·simp only [J,f];exact Vr [_,_,_]
    ·exact zC _ _ C
   |some w=>
    rw [ho] at G z f;have G:(aO e.fr).getD m []=w.c:=G;have z:aM Tryz.prog 87 [] [.agg w.c] (.bool (lN (some w))) []:=z;generalize lN (some w)=y at *
    cases y with
    |true=>
     rw [zct] at f;refine Wy ?_;refine Le (i+1) (hI:=?_) (hm:=?_) (hv:=?_)
     ·exact C
     ·simp only [J,f];exact Vr [_,_,_]
     ·exact zC _ _ C
    |false=>
     rw [zcf] at f;refine Wy ?_;refine Le (i+1) (hI:=?_) (hm:=?_) (hv:=?_)
     ·exact C
     ·simp only [J,f];exact Vr [_,_,_]
     ·exact zC _ _ C
  ·have aa:kC n A (d,done) A.length=(e,T):=by
    by_cases hd:T<n
    ·obtain rfl:i=A.length:=by omega
     exact ab
    ·exact(j hd _ hi).trans rfl
   rw [aa] at W;subst W
   by_cases ah:i<A.length
   ·have aw:¬T<n:=λx=>ae ⟨ah,x⟩;exact kK
   ·exact kK
def tF(c:Dc)(D:List Int):Nat->Dc×Int
 |0=>(c,0)
 |t+1=>((jU (tF c D t).1 t (D.getD t 0)).1,(tF c D t).2+(jU (tF c D t).1 t (D.getD t 0)).2)
def gJ(s:Dc×Int)(n:Int):Nat->Dc×Int
 |0=>s
 |t+1=>bif decide ((gJ s n t).2<n) then((jU (gJ s n t).1 t (n- (gJ s n t).2)).1,(gJ s n t).2+(jU (gJ s n t).1 t (n- (gJ s n t).2)).2) else gJ s n t
def aPP(c:Dc)(n:Nat):Dc×Int:=gJ (tF (dG c c.fr.length) (lA c.gr n 2).1 c.gr.length) (n:Int) c.gr.length
theorem TrI.trim {c:Dc} {s:Dc×Int} {b:Int} (h:TrI c s b) {t:Nat} (e:t<c.gr.length)(n:Int):TrI c ((jU s.1 t n).1,s.2+(jU s.1 t n).2) (b+200):=by have k:=aCF h.ok (t:=t) (by rw [h.sh.gr];exact e) n;have :=h.lo;have :=h.hi;have :=k.lo;have :=k.hi;exact⟨k.ok,h.sh.trans k.sh,by dsimp only;omega,by dsimp only;omega⟩
theorem aCD {c:Dc} (h:Ok c)(D:List Int):∀t,t<=c.gr.length->TrI c (tF c D t) (200*t)
 |0,_=>⟨h,Sh.refl c,Int.le_refl _,by show(0:Int)<=_;omega⟩
 |t+1,e=>((aCD h D t (by omega)).trim (by omega) _).wid (by omega)
theorem aG1 {c:Dc} {s:Dc×Int} {b:Int} (h:TrI c s b)(n:Int):∀t,t<=c.gr.length->TrI c (gJ s n t) (b+200*t)
 |0,_=>h.wid (by omega)
 |t+1,f=>by
  have e:=aG1 h n t (by omega);rw [gJ]
  cases decide ((gJ s n t).2<n) with
  |true=>exact(e.trim (by omega) _).wid (by omega)
  |false=>exact e.wid (by omega)
theorem aKF {s:Dc×Int} {n:Int} {i:Nat} (h:¬(gJ s n i).2<n):∀j,i<=j->gJ s n j=gJ s n i
 |0,f=>by
  obtain rfl:i=0:=by omega
  rfl
 |j+1,f=>by
  by_cases e:i=j+1
  ·rw [e]
  ·rw [gJ,aKF h j (by omega),zdf h,zcf]
theorem aKU {c:Dc} (k:Nat):Sh c (dG c k):=by rw [(aFK c k).1];exact⟨rfl,rfl,rfl,rfl⟩
theorem bEW {c:Dc} (h:Ok c)(n:Nat):Ok (aPP c n).1/\Sh c (aPP c n).1:=by have a:=vD h c.fr.length;have e:=aKU (c:=c) c.fr.length;have k:=aCD a (lA c.gr n 2).1 c.gr.length (by rw [e.gr];exact Nat.le_refl _);have k2:=aG1 k (n:Int) c.gr.length (by rw [e.gr];exact Nat.le_refl _);exact⟨k2.ok,e.trans k2.sh⟩
noncomputable def R22:Rsv Tryz.prog Tryz.f22 [] 2:=⟨_,_,rfl,rfl⟩
theorem bSY(c:Dc)(h:Ok c)(n:Nat)(hn:1<=n/\n<=64):aM Tryz.prog 22 [] [.agg c.c,.int .i64 (n:Int)] (.tup [.agg (aPP c n).1.c,.int .i64 (aPP c n).2]) []:=by
 have ai:=bP4 c h;have a:=vD h c.fr.length;have sh:=aKU (c:=c) c.fr.length;have z:(dG c c.fr.length).gr=c.gr:=by rw [(aFK c c.fr.length).1]
 have ag:=h.ng;have E:=bOA c.gr h.gr n (by omega);have N:=aFN c.gr n 2;have Y:aPP c n=gJ (tF (dG c c.fr.length) (lA c.gr n 2).1 c.gr.length) (n:Int) c.gr.length:=rfl;generalize aPP c n=q at *;generalize(lA c.gr n 2).1=D at *;generalize(lA c.gr n 2).2=dn at *;generalize dG c c.fr.length=A at *;have R:=N.len;have ab:(aB D).length=D.length:=aA _;have aa:A.gr.length=c.gr.length:=by rw [z]
 rw [<-z] at E;refine fnZ R22 Tryz.func22 ?_;refine Wy ?_;refine Lp (λt:Nat=>t<=c.gr.length) (λt=> [(8,.int .i64 (t:Int)),(7,.int .i64 (tF A D t).2)]) (λt=> [(0,.box (tF A D t).1.c)]) (λt=>c.gr.length-t) 0 (zA _) ?_ ?_
 ·exact Vr [_,_]
 intro t ht;have C:=aCD a D t (by omega);have e:tF A D (t+1)=((jU (tF A D t).1 t (D.getD t 0)).1,(tF A D t).2+(jU (tF A D t).1 t (D.getD t 0)).2):=rfl;have af:=C.lo;have ae:=C.hi;have F:=C.ok;have ah:=C.sh.gr
 by_cases b:t<c.gr.length
 ·have ad:(aB D).getD t []=[.int .i64 (D.getD t 0)]:=aC9 (by omega);have O:=N.bd t;have M:=bJR (tF A D t).1 F t (by omega) (D.getD t 0) (by omega);have B:=aCF F (t:=t) (by omega) (D.getD t 0);have H:=B.lo;have J:=B.hi;generalize jU (tF A D t).1 t (D.getD t 0)=T at *;generalize tF A D t=S at *;refine Wy ?_;refine Le (t+1) (hv:=?_);simp only [e];exact Vr [_,_]
 ·obtain rfl:t=c.gr.length:=by omega
  clear e;generalize tF A D c.gr.length=S at *;refine Wy ?_;refine Lp (λt:Nat=>t<=c.gr.length) (λt=> [(11,.int .i64 (t:Int)),(7,.int .i64 (gJ S (n:Int) t).2)]) (λt=> [(0,.box (gJ S (n:Int) t).1.c)]) (λt=>c.gr.length-t) 0 (zA _) ?_ ?_
  ·exact Vr [_,_]
  intro t K;have j:=aG1 C (n:Int) t (by omega);have e:gJ S (n:Int) (t+1)=bif decide ((gJ S (n:Int) t).2< (n:Int)) then((jU (gJ S (n:Int) t).1 t ((n:Int)- (gJ S (n:Int) t).2)).1,(gJ S (n:Int) t).2+(jU (gJ S (n:Int) t).1 t ((n:Int)- (gJ S (n:Int) t).2)).2) else gJ S (n:Int) t:=rfl
  have f:=aKF (s:=S) (n:=(n:Int)) (i:=t);have W:=j.lo;have Q:=j.hi;have G:=j.ok;have Z:=j.sh.gr;have ac:(aQ (gJ S (n:Int) t).1.gr).length=c.gr.length:=by rw [aL];omega
  by_cases O:t<c.gr.length/\(gJ S (n:Int) t).2< (n:Int)
  ·have M:=bJR (gJ S (n:Int) t).1 G t (by omega) ((n:Int)- (gJ S (n:Int) t).2) (by omega);have B:=aCF G (t:=t) (by omega) ((n:Int)- (gJ S (n:Int) t).2);have H:=B.lo;have J:=B.hi;rw [zdt O.2,zct] at e;generalize jU (gJ S (n:Int) t).1 t ((n:Int)- (gJ S (n:Int) t).2)=T at *;generalize hS:gJ S (n:Int) t=U at *;refine Wy ?_;refine Le (t+1) (hv:=?_);simp only [e];exact Vr [_,_]
  ·have m:gJ S (n:Int) c.gr.length=gJ S (n:Int) t:=by
    by_cases x:(gJ S (n:Int) t).2< (n:Int)
    ·rw [show t=c.gr.length by omega]
    ·exact f x _ K
   rw [m] at Y;subst Y;clear e f;generalize gJ S (n:Int) t=U at *
   by_cases x:t<c.gr.length
   ·exact kK
   ·exact kK
end Go.Proofs.YtmhapcbjjpadnaaGreat
