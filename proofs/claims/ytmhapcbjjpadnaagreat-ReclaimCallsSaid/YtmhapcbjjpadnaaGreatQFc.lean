/- Caches. -/
import Derived.Test.YtmhapcbjjpadnaaGreatQDc
set_option linter.all false
set_option maxHeartbeats 32000000
set_option maxRecDepth 40000
open List renaming not_mem_nil→zA,mem_cons→zD
open Nat renaming zero_le→zC
namespace Go.Proofs.YtmhapcbjjpadnaaGreat
open Go Go.Sk Go.RowKit
def aDW(c:Dc)(t n:Int):Dc×Int:=bif decide (0<=t/\t< (c.gr.length:Int)) then jE c t.toNat n else(c.x,0)
theorem aYF {c:Dc} (h:Ok c)(n:Int) {L:Nat} (e:c.gr.length=L):(evP c n).1.ls.length=L:=by rw [(aYG h n).nl,(aYE h n).1,e]
theorem bDM {P:Program} {f:FuncId} {S:aD} {m:Nat} {K:V->aD->Nat->Prop} {args:List V} {A B C X:Prop} (L:List Nat)(ob0 e:List Sk.Obj)(j:V)(k:FnM P f ob0 (args.map (arg2 L)) j e)(E:pW S L L ob0)(F:jJ L=true)(D:Nat.ble e.length 16=true)
 (z:K (aC7 [] m j) (mA (kD S L) [] (e.map (lY [] m)) m) (m+16)):nC A B C ((true=true->sE P f args S m K)/\(true=false->X)):=
 .mov ⟨λ_=>⟨L,ob0,e,j,k,E,F,D,z⟩,λh=>by cases h⟩
theorem aZV(c:Dc)(h:Ok c)(t n:Int):aM Tryz.prog 16 [] [.agg c.c,.int .i64 t,.int .i64 n] (.tup [.agg (aDW c t n).1.c,.int .i64 (aDW c t n).2]) []:=by
 have ab:=bDS c h;have ai:=bKO c h t;have a3:=h.nr;unfold Dc.b Dc.x at ab;dsimp only at ab;generalize hq:aDW c t n=q;unfold aDW at hq
 by_cases ht:0<=t/\t< (c.gr.length:Int)
 rotate_left
 ·rw [zdf ht] at ai;rw [zdf ht,zcf] at hq;subst hq;unfold Dc.c Dc.x;dsimp only;refine fnE Tryz.func16 rfl rfl rfl bIP ?_;exact kK
 rw [zdt ht] at ai;rw [zdt ht,zct] at hq;obtain⟨t,rfl⟩:∃j:Nat,t=(j:Int):=⟨t.toNat,by omega⟩;rw [Int.toNat_natCast] at hq;have ao:t<c.gr.length:=by omega
 clear ht
 by_cases hn:n<1
 ·have :jE c t n=(c.x,0):=by unfold jE;rw [zdt hn,zct]
  rw [this] at hq;subst hq;unfold Dc.c Dc.x;dsimp only;refine fnE Tryz.func16 rfl rfl rfl bIP ?_;exact kK
 have ag:1<=n:=by omega
 have ac:=bTH c.x (t:Int) 0;unfold trB Dc.x at ac;obtain⟨L,hL⟩:∃L,c.gr.length=L:=⟨_,rfl⟩;have au:c.ls.length=L:=by rw [h.nl,hL]
 dsimp only at ac;rw [au] at ac ab;refine fnE Tryz.func16 rfl rfl rfl bIP ?_;refine Wy ?_
 refine⟨⟨[(5,⟨[],true,.ptr 0 0 0⟩),(6,⟨[],true,.ptr 1 0 0⟩),(7,⟨[],true,.int .i64 0⟩),(8,⟨[],true,.ptr 2 0 0⟩)],[(0,.box [.int .i64 n]),(1,.box [.lst 0 true [],.lst 0 true [],.lst 0 true [],.lst 0 true [],.lst 0 true [],.lst 0 true [],.lst 0 true []]),(2,.box [.ptr 3 0 0]),(3,.box [.lst 15 false (aX c.x.fl),.lst 9 false (aO c.x.fr),.lst 6 false (aK c.x.zo),.lst 3 false (aQ c.x.gr),.sl 4 0 L,.lst 1 false (aB c.x.ck),.lst 5 false (aN c.x.pt),.int .i64 (t:Int),.int .i64 0]),(4,.row 3 (aU c.ls))],5⟩,Vr [some 1,some 2,some 20,some 19,some 6],?_⟩
 clear ab ai;refine Wy ?_
 refine⟨⟨[(5,⟨[],true,.ptr 0 0 0⟩),(6,⟨[],true,.ptr 1 0 0⟩),(7,⟨[],true,.int .i64 0⟩),(8,⟨[],true,.ptr 2 0 0⟩),(33,⟨[],true,.fn 192 [.ptr 4 0 0]⟩)],[(0,.box [.int .i64 n]),(1,.box [.lst 0 true [],.lst 0 true [],.lst 0 true [],.lst 0 true [],.lst 0 true [],.lst 0 true [],.lst 0 true []]),(2,.box [.ptr 3 0 0]),(3,.box [.lst 15 false (aX c.x.fl),.lst 9 false (aO c.x.fr),.lst 6 false (aK c.x.zo),.lst 3 false (aQ c.x.gr),.sl 5 0 L,.lst 1 false (aB c.x.ck),.lst 5 false (aN c.x.pt),.int .i64 (t:Int),.int .i64 0]),(4,.box [.ptr 3 0 0]),(5,.row 3 (aU c.ls))],6⟩,Vr [some 0,some 1,some 2,some 3,some 5,some 4],?_⟩
 clear ac;refine⟨_,5,rfl,by decide,⟨zC _,by show 5<=6;decide⟩,rfl,λy=>?_⟩;refine Wy ?_
 refine⟨Nat,λk=>k<=2/\(cR c.x t n k).2<n,λk=>⟨[(1,⟨[],true,.ptr 4 0 0⟩),(2,⟨[],true,.ptr 6 0 0⟩),(7,⟨[],true,.int .i64 (k:Int)⟩)],[(0,.box [.int .i64 n]),(1,.box [.lst 0 true [],.lst 0 true [],.lst 0 true [],.lst 0 true [],.lst 0 true [],.lst 0 true [],.lst 0 true []]),(2,.box [.ptr 3 0 0]),(3,.box [.lst 15 false (aX (cR c.x t n k).1.fl),.lst 9 false (aO (cR c.x t n k).1.fr),.lst 6 false (aK (cR c.x t n k).1.zo),.lst 3 false (aQ (cR c.x t n k).1.gr),.sl 5 0 L,.lst 1 false (aB (cR c.x t n k).1.ck),.lst 5 false (aN (cR c.x t n k).1.pt),.int .i64 (t:Int),.int .i64 (cR c.x t n k).2]),(4,.box [.ptr 3 0 0]),(5,.row 3 (aU (cR c.x t n k).1.ls)),(6,.box [.val (.func (.yield y) #[] #[])])],7⟩,λ_=>((),none),λk=>2-k,⟨0,⟨zC _,ag⟩,?_,rfl⟩,?_⟩
 ·exact Vr [some 0,some 1,some 2,some 3,some 4,some 5,some 6]
 rintro k ⟨hk,Q⟩;have hP:=aLU (c:=c.x) h.x (t:=t) ao (n:=n) (by omega) k;have B:cR c.x t n (k+1)=bif decide ((cR c.x t n k).2<n) then fY n (aW (cR c.x t n k).1 t).2 (cB (cR c.x t n k).1 t (aW (cR c.x t n k).1 t).1,(cR c.x t n k).2) (aW (cR c.x t n k).1 t).2.length else cR c.x t n k:=rfl
 rw [zdt Q,zct] at B;have z:=λi (a:k<2)=> @bBG c t n ag k i a Q
 by_cases b:k<2
 ·dsimp only;generalize hp:cR c.x t n k=P at *;obtain⟨d,done⟩:=P;dsimp only at B z Q⊢;have J:Ok d:=hP.ok;have W:d.gr.length=L:=hP.gr.trans hL;have hl:t<d.ls.length:=by rw [J.nl,W];omega
  have aj:d.ls.length=L:=by rw [J.nl,W]
  have N:=bP2 d J t hl done;unfold trB at N;rw [aj] at N;have H:=bER J hl;obtain⟨hS,ap⟩:=hP.scan ao;generalize aW d t=q2 at *;obtain⟨ql,v⟩:=q2;dsimp only at B z H hS ap N;have a4:(aB v).length=v.length:=aA _;have z:=λi=>z i b;refine Wy ?_
  refine⟨Nat,λi=>i<=v.length/\(fY n v (cB d t ql,done) i).2<n,λi=>⟨[(1,⟨[],true,.ptr 4 0 0⟩),(2,⟨[],true,.ptr 6 0 0⟩),(7,⟨[],true,.int .i64 (k:Int)⟩),(10,⟨[],true,.lst 1 false (aB v)⟩),(11,⟨[],true,.int .i64 (v.length:Int)⟩),(12,⟨[],true,.int .i64 (i:Int)⟩)],[(0,.box [.int .i64 n]),(1,.box [.lst 0 true [],.lst 0 true [],.lst 0 true [],.lst 0 true [],.lst 0 true [],.lst 0 true [],.lst 0 true []]),(2,.box [.ptr 3 0 0]),(3,.box [.lst 15 false (aX (fY n v (cB d t ql,done) i).1.fl),.lst 9 false (aO (fY n v (cB d t ql,done) i).1.fr),.lst 6 false (aK (fY n v (cB d t ql,done) i).1.zo),.lst 3 false (aQ (fY n v (cB d t ql,done) i).1.gr),.sl 5 0 L,.lst 1 false (aB (fY n v (cB d t ql,done) i).1.ck),.lst 5 false (aN (fY n v (cB d t ql,done) i).1.pt),.int .i64 (t:Int),.int .i64 (fY n v (cB d t ql,done) i).2]),(4,.box [.ptr 3 0 0]),(5,.row 3 (aU (fY n v (cB d t ql,done) i).1.ls)),(6,.box [.val (.func (.yield y) #[] #[])])],7⟩,λ_=>((),none),λi=>v.length-i,⟨0,⟨zC _,Q⟩,?_,rfl⟩,?_⟩
  ·exact Vr [some 0,some 1,some 2,some 3,some 4,some 5,some 6]
  clear N;rintro i ⟨hi,C⟩;have K:=aMN (v:=v) hS i;have am:=λa=>aX9 H (n:=n) (s:=(cB d t ql,done)) rfl (i:=i) a (by rw [K.fr,hP.fr]) C;have z:=z (i+1)
  by_cases b2:i<v.length
  ·dsimp only;obtain⟨h0,Z⟩:=am b2;generalize he:fY n v (cB d t ql,done) i=E at *;obtain⟨e,T⟩:=E;dsimp only at Z h0 C⊢;have M:Ok e:=K.ok;have ay:0<=T:=K.lo;have ax:T<=64*(k:Int)+i:=K.hi;have O:e.ls.length=L:=by rw [M.nl,K.gr];exact hL
   have G:=bHR e M (v.getD i 0);have ah:=aYF M (v.getD i 0) (L:=L) (K.gr.trans hL);unfold Dc.o1 Dc.ob1 at G;rw [h0,O,ah] at G;have a1:(aB v).getD i []=[.int .i64 (v.getD i 0)]:=aC9 b2;generalize(evP e (v.getD i 0)).1=x at *;generalize v.getD i 0=f at *;clear am K h0 hS hP he
   by_cases D:T+1=n
   ·have af:(T+1==n)=true:=by simpa using D
    have z:=z b2 (by rw [Z];dsimp only;omega);rw [hq,Z] at z;subst z;refine Wy ?_;refine bDM [5] _ _ _ G ⟨rfl,trivial⟩ rfl rfl ?_;refine Wy ?_;exact Lz
   ·have af:(T+1==n)=false:=by simpa using D
    refine Wy ?_;refine bDM [5] _ _ _ G ⟨rfl,trivial⟩ rfl rfl ?_;refine Wy ?_;refine⟨i+1,⟨b2,?_⟩,?_,rfl,by show v.length- (i+1)<v.length-i;omega⟩
    ·rw [Z];dsimp only;omega
    ·simp only [Z];exact Vr [some 0,some 1,some 2,some 3,some 4,some 7,some 6]
  ·obtain rfl:i=v.length:=by omega
   refine Wy ?_;refine⟨k+1,⟨b,?_⟩,?_,rfl,by show 2- (k+1)<2-k;omega⟩
   ·rw [B];exact C
   ·simp only [B];exact Vr [some 0,some 1,some 2,some 3,some 4,some 5,some 6]
 ·obtain rfl:k=2:=by omega
  clear B z b;have z:=λi=> @bBF c t n ag i;have aa:jE c t n=gN n ((cR c.x t n 2).1.ls.getD t l0).A (cR c.x t n 2) ((cR c.x t n 2).1.ls.getD t l0).A.length:=by unfold jE;rw [zdf hn,zcf]
  dsimp only;generalize hp:cR c.x t n 2=P at *;obtain⟨d,done⟩:=P;dsimp only at z Q aa⊢;have J:Ok d:=hP.ok;have W:d.gr.length=L:=hP.gr.trans hL;have hl:t<d.ls.length:=by rw [J.nl,W];omega
  have aj:d.ls.length=L:=by rw [J.nl,W]
  have Y:=eC d.ls t hl;have ae:=λi=>bIE J hl (i:=i);have ad:=((bF _).1 (J.ls t hl)).len;rw [List.length_append] at ad;generalize d.ls.getD t l0=la at *;obtain⟨A,I,R⟩:=la;dsimp only at z aa ae ad;have Y:(aU d.ls).getD t []=[.lst 1 false (aB A),.lst 1 false (aB I),.lst 1 false (aB R)]:=Y;have ar:=aAQ (aB A) false (by rw [aA];omega);have aq:=bOD A;have a0:(aB A).length=A.length:=aA _;refine Wy ?_
  refine⟨⟨[(1,⟨[],true,.ptr 4 0 0⟩),(2,⟨[],true,.ptr 5 0 0⟩),(35,⟨[],true,.fn 209 [.ptr 6 0 0]⟩)],[(0,.box [.int .i64 n]),(1,.box [.lst 0 true [],.lst 0 true [],.lst 0 true [],.lst 0 true [],.lst 0 true [],.lst 0 true [],.lst 0 true []]),(2,.box [.ptr 3 0 0]),(3,.box [.lst 15 false (aX d.fl),.lst 9 false (aO d.fr),.lst 6 false (aK d.zo),.lst 3 false (aQ d.gr),.sl 7 0 L,.lst 1 false (aB d.ck),.lst 5 false (aN d.pt),.int .i64 (t:Int),.int .i64 done]),(4,.box [.ptr 3 0 0]),(5,.box [.val (.func (.yield y) #[] #[])]),(6,.box [.lst 1 false (aB A)]),(7,.row 3 (aU d.ls))],8⟩,Vr [some 0,some 1,some 2,some 3,some 4,some 6,some 10448,some 5],?_⟩
  clear aq ar Y;refine⟨_,7,rfl,by decide,⟨by show 5<=7;decide,by show 7<=8;decide⟩,rfl,λy2=>?_⟩;refine Wy ?_
  refine⟨Nat,λi=>i<=A.length/\(gN n A (d,done) i).2<n,λi=>⟨[(0,⟨[],true,.val (.func (.yield y2) #[] #[])⟩),(1,⟨[],true,.ptr 6 0 0⟩),(3,⟨[],true,.int .i64 (((A.length-i:Nat):Int)-1)⟩)],[(0,.box [.int .i64 n]),(1,.box [.lst 0 true [],.lst 0 true [],.lst 0 true [],.lst 0 true [],.lst 0 true [],.lst 0 true [],.lst 0 true []]),(2,.box [.ptr 3 0 0]),(3,.box [.lst 15 false (aX (gN n A (d,done) i).1.fl),.lst 9 false (aO (gN n A (d,done) i).1.fr),.lst 6 false (aK (gN n A (d,done) i).1.zo),.lst 3 false (aQ (gN n A (d,done) i).1.gr),.sl 7 0 L,.lst 1 false (aB (gN n A (d,done) i).1.ck),.lst 5 false (aN (gN n A (d,done) i).1.pt),.int .i64 (t:Int),.int .i64 (gN n A (d,done) i).2]),(4,.box [.ptr 3 0 0]),(5,.box [.val (.func (.yield y) #[] #[])]),(6,.box [.lst 1 false (aB A)]),(7,.row 3 (aU (gN n A (d,done) i).1.ls))],8⟩,λ_=>(((),none),none),λi=>A.length-i,⟨0,⟨zC _,Q⟩,?_,rfl⟩,?_⟩
  ·exact Vr [some 0,some 1,some 2,some 3,some 4,some 5,some 6,some 7]
  rintro i ⟨hi,C⟩;have K:=aKS (a:=A) hP i;have B:gN n A (d,done) (i+1)=bif decide ((gN n A (d,done) i).2<n) then(bif lN ((gN n A (d,done) i).1.fr.getD (A.getD (A.length-1-i) 0-1).toNat none) then((evP (gN n A (d,done) i).1 (A.getD (A.length-1-i) 0)).1,(gN n A (d,done) i).2+1) else gN n A (d,done) i) else gN n A (d,done) i:=rfl
  rw [zdt C,zct] at B
  by_cases b:i<A.length
  ·obtain⟨m,m1,m2⟩:=ae i b;have e3:(((A.length-i:Nat):Int)-1)=((A.length-1-i:Nat):Int):=by omega
   have aw:(aB A).getD (A.length-1-i) []=[.int .i64 (A.getD (A.length-1-i) 0)]:=aC9 (by omega);have z:=z (i+1) b;dsimp only;rw [e3];have a2:A.length-1-i<A.length:=by omega
   generalize hj:A.length-1-i=j at *;rw [m2] at aw B;rw [show(((m+1:Nat):Int)-1).toNat=m by omega] at B;generalize he:gN n A (d,done) i=E at *;obtain⟨e,T⟩:=E;dsimp only at B C⊢;have M:Ok e:=K.ok;have ay:0<=T:=K.lo;have ax:T<=64*((2:Nat):Int)+i:=K.hi;have O:e.ls.length=L:=by rw [M.nl,K.gr];exact hL
   have al:m<e.fr.length:=by rw [K.fr,<-hP.fr];exact m1
   have F:=bGZ e M m al;have ak:=λa=>aSO (d:=e) (m:=m) al a;have G:=bHR e M ((m+1:Nat):Int);have ah:=aYF M ((m+1:Nat):Int) (L:=L) (K.gr.trans hL);unfold Dc.o1 Dc.ob1 at G;have av:((aU e.ls).drop 0).take L=aU e.ls:=by rw [List.drop_zero];exact List.take_of_length_le (by rw [bW,O];exact Nat.le_refl _)
   have az:(aU e.ls).length=L:=by rw [bW,O]
   unfold Dc.c at F;rw [<-av] at F;rw [O,ah] at G;clear ae hP K he
   cases hy:lN (e.fr.getD m none) with
   |true=>
    rw [ak hy] at G;rw [hy,zct] at B;rw [hy] at F;clear ak;generalize(evP e ((m+1:Nat):Int)).1=x at *
    by_cases D:T+1=n
    ·have af:(T+1==n)=true:=by simpa using D
     have z:=z (by rw [B];dsimp only;omega);rw [hq,B] at z;subst z;refine Wy ?_;refine .inl ⟨_,λ_=>⟨λv H=>?_,F⟩,.inr rfl,?_⟩
     ·have H:v∈ [V.agg [.lst 15 false (aX e.fl),.lst 9 false (aO e.fr),.lst 6 false (aK e.zo),.lst 3 false (aQ e.gr),.sl 7 0 L,.lst 1 false (aB e.ck),.lst 5 false (aN e.pt)],V.int .i64 ((m+1:Nat):Int)]:=H;rcases List.mem_cons.1 H with rfl |H
      ·intro x hx;simp only [zD,zA,or_false] at hx;rcases hx with rfl |rfl |rfl |rfl |rfl |rfl |rfl <;> first |trivial | (show 0+L<=(aU e.ls).length;omega)
      ·obtain rfl:=List.mem_singleton.1 H;trivial
     refine Wy ?_;refine bDM [7] _ _ _ G ⟨rfl,trivial⟩ rfl rfl ?_;refine Wy ?_;exact Lz
    ·have af:(T+1==n)=false:=by simpa using D
     refine Wy ?_;refine .inl ⟨_,λ_=>⟨λv H=>?_,F⟩,.inr rfl,?_⟩
     ·have H:v∈ [V.agg [.lst 15 false (aX e.fl),.lst 9 false (aO e.fr),.lst 6 false (aK e.zo),.lst 3 false (aQ e.gr),.sl 7 0 L,.lst 1 false (aB e.ck),.lst 5 false (aN e.pt)],V.int .i64 ((m+1:Nat):Int)]:=H;rcases List.mem_cons.1 H with rfl |H
      ·intro x hx;simp only [zD,zA,or_false] at hx;rcases hx with rfl |rfl |rfl |rfl |rfl |rfl |rfl <;> first |trivial | (show 0+L<=(aU e.ls).length;omega)
      ·obtain rfl:=List.mem_singleton.1 H;trivial
     refine Wy ?_;refine bDM [7] _ _ _ G ⟨rfl,trivial⟩ rfl rfl ?_;refine Wy ?_;refine⟨i+1,⟨b,by rw [B];dsimp only;omega⟩,?_,rfl,by show A.length- (i+1)<A.length-i;omega⟩;have e4:(((A.length- (i+1):Nat):Int)-1)=(j:Int)-1:=by omega
     simp only [B,e4];exact Vr [some 0,some 1,some 2,some 3,some 4,some 5,some 6,some 8]
   |false=>
    rw [hy,zcf] at B;rw [hy] at F;refine Wy ?_;refine .inl ⟨_,λ_=>⟨λv H=>?_,F⟩,.inr rfl,?_⟩
    ·have H:v∈ [V.agg [.lst 15 false (aX e.fl),.lst 9 false (aO e.fr),.lst 6 false (aK e.zo),.lst 3 false (aQ e.gr),.sl 7 0 L,.lst 1 false (aB e.ck),.lst 5 false (aN e.pt)],V.int .i64 ((m+1:Nat):Int)]:=H;rcases List.mem_cons.1 H with rfl |H
     ·intro x hx;simp only [zD,zA,or_false] at hx;rcases hx with rfl |rfl |rfl |rfl |rfl |rfl |rfl <;> first |trivial | (show 0+L<=(aU e.ls).length;omega)
     ·obtain rfl:=List.mem_singleton.1 H;trivial
    refine Wy ?_;refine⟨i+1,⟨b,by rw [B];exact C⟩,?_,rfl,by show A.length- (i+1)<A.length-i;omega⟩;have e4:(((A.length- (i+1):Nat):Int)-1)=(j:Int)-1:=by omega
    simp only [B,e4];exact Vr [some 0,some 1,some 2,some 3,some 4,some 5,some 6,some 7]
  ·obtain rfl:i=A.length:=by omega
   clear B;rw [hq] at aa;have O:(gN n A (d,done) A.length).1.ls.length=L:=by rw [K.ok.nl,K.gr];exact hL
   dsimp only;generalize gN n A (d,done) A.length=E at *;subst aa;refine Wy ?_;exact Lz
end Go.Proofs.YtmhapcbjjpadnaaGreat
