/- Caches. -/
import Derived.Test.YtmhapcbjjpadnaaGreatQJc
set_option linter.all false
set_option maxHeartbeats 32000000
set_option maxRecDepth 40000
open Nat renaming zero_le→zA
namespace Go.Proofs.YtmhapcbjjpadnaaGreat
open Go Go.Sk Go.RowKit
theorem bPM(c:Dc)(h:Ok c)(h2:c.gr.length=2)(j:exT c 0<exT c 1)(n:Int):aM Tryz.prog 24 [] [.agg c.c,.int .i64 n] (.lst 1 false (aB (eK c n (bM c) (bM c).length))) []:=by
 have hol:=uM (c:=c) (by omega);rw [hol,h2];generalize T:eK c n (bM c) 2=q;have ab:=h.nr;obtain⟨x,y,E⟩:=two h2;obtain⟨F,G⟩:=uA h.gr (show 0<c.gr.length by omega);obtain⟨H,J⟩:=uA h.gr (show 1<c.gr.length by omega);have R:bM c=[1,0]:=by unfold bM aIY;rw [h2,zdt j];rfl
 unfold exT at j;rw [E] at F G H J j;have j:iF x<iF y:=j;have kx:=aOR x F G;have ky:=aOR y H J;clear F G H J;have Y:aQ c.gr=[x.c,y.c]:=by rw [E];rfl
 have N:([x.c,y.c]:List (List V)).length=2:=rfl;generalize iF x=ex at *;generalize iF y=ey at *;show aM Tryz.prog 24 [] [.agg [.lst 15 false (aX c.fl),.lst 9 false (aO c.fr),.lst 6 false (aK c.zo),.lst 3 false (aQ c.gr),.lst 3 false (aU c.ls),.lst 1 false (aB c.ck),.lst 5 false (aN c.pt)],.int .i64 n] _ _;rw [Y];refine fnE Tryz.func24 rfl rfl rfl bNM ?_;refine Wy ?_
 refine⟨Nat,λk=>k<=2/\(eK c n (bM c) k).length<=64*k,λk=>⟨[(1,⟨[],true,.int .i64 n⟩),(2,⟨[],true,.ptr 0 0 0⟩),(5,⟨[],true,.sl 2 0 (eK c n (bM c) k).length⟩),(6,⟨[],true,.sl 1 0 2⟩)],[(0,.box [.lst 15 false (aX c.fl),.lst 9 false (aO c.fr),.lst 6 false (aK c.zo),.lst 3 false [x.c,y.c],.lst 3 false (aU c.ls),.lst 1 false (aB c.ck),.lst 5 false (aN c.pt)]),(1,.row 1 (snB true k)),(2,.row 1 (aB (eK c n (bM c) k)))],3⟩,λ_=>(),λk=>2-k,⟨0,⟨zA _,Nat.le_refl _⟩,?_,rfl⟩,?_⟩
 ·exact Vr [some 0,some 1,none]
 rintro k ⟨Z,aa⟩
 by_cases W:((eK c n (bM c) k).length:Int)<n
 rotate_left
 ·have C:=vL W 2 Z;rw [T] at C;dsimp only;generalize eK c n (bM c) k=e at *;subst C;generalize(snB true k)=sr at *;refine Wy ?_;exact Lz
 have M:k=0\/k=1\/k=2:=by omega
 rcases M with rfl |rfl |rfl
 ·dsimp only;have D:(bM c).getD 0 0=((1:Nat):Int):=by rw [R];rfl
  have B:1<c.gr.length:=by omega
  have b:0+1<=2:=by decide
  have f:eK c n (bM c) (0+1)=jC c n (uG c ((bM c).getD 0 0)) (eK c n (bM c) 0) (uG c ((bM c).getD 0 0)).length:=rfl;rw [D] at f;have K:(uG c ((1:Nat):Int)).length<=64:=by have :=((bF _).1 (h.ls 1 (by rw [h.nl];exact B))).len;exact this
  generalize m:eK c n (bM c) (0+1)=Q at *;generalize eK c n (bM c) 0=e at *;refine Wy ?_
  refine⟨Nat,λt=>t<=2,λt=>⟨[(1,⟨[],true,.int .i64 n⟩),(2,⟨[],true,.ptr 0 0 0⟩),(5,⟨[],true,.sl 2 0 e.length⟩),(6,⟨[],true,.sl 1 0 2⟩),(7,⟨[],true,.int .i64 (([(-1),0,1]:List Int).getD t 0)⟩),(8,⟨[],true,.int .i64 (t:Int)⟩)],[(0,.box [.lst 15 false (aX c.fl),.lst 9 false (aO c.fr),.lst 6 false (aK c.zo),.lst 3 false [x.c,y.c],.lst 3 false (aU c.ls),.lst 1 false (aB c.ck),.lst 5 false (aN c.pt)]),(1,.row 1 (snB true 0)),(2,.row 1 (aB e))],3⟩,λ_=>(),λt=>2-t,⟨0,zA _,?_,rfl⟩,?_⟩
  ·exact Vr [some 0,some 1,some 2]
  intro t D;have z:t=0\/t=1\/t=2:=by omega
  rcases z with rfl |rfl |rfl
  ·dsimp only;rw [show([-1,0,1]:List Int).getD 0 0= -1 from rfl];refine Wy ?_;refine⟨1,by decide,?_,rfl,by decide⟩;exact Vr [some 0,some 1,some 2]
  ·dsimp only;rw [show([-1,0,1]:List Int).getD 1 0=0 from rfl];refine Wy ?_;refine⟨2,by decide,?_,rfl,by decide⟩;exact Vr [some 0,some 1,some 2]
  ·dsimp only;rw [show([-1,0,1]:List Int).getD 2 0=1 from rfl];refine Wy ?_;refine⟨⟨[(1,⟨[],true,.int .i64 n⟩),(2,⟨[],true,.ptr 0 0 0⟩),(5,⟨[],true,.sl 2 0 e.length⟩),(6,⟨[],true,.sl 1 0 2⟩),(7,⟨[],true,.int .i64 ((1:Nat):Int)⟩)],[(0,.box [.lst 15 false (aX c.fl),.lst 9 false (aO c.fr),.lst 6 false (aK c.zo),.lst 3 false [x.c,y.c],.lst 3 false (aU c.ls),.lst 1 false (aB c.ck),.lst 5 false (aN c.pt)]),(1,.row 1 (snB true 1)),(2,.row 1 (aB e))],3⟩,Vr [some 0,some 1,some 2],?_⟩
   refine aFT c h 1 B n e Q (by omega) _ _ 2 _ f λst' O=>?_;refine⟨0+1,⟨b,by rw [m,f];have :=lG (c:=c) (n:=n) (l:=uG c ((1:Nat):Int)) (out:=e) (uG c ((1:Nat):Int)).length;omega⟩,?_,rfl,by show 2-_<2-_;omega⟩;rw [m];exact O
 ·dsimp only;have D:(bM c).getD 1 0=((0:Nat):Int):=by rw [R];rfl
  have B:0<c.gr.length:=by omega
  have b:1+1<=2:=by decide
  have f:eK c n (bM c) (1+1)=jC c n (uG c ((bM c).getD 1 0)) (eK c n (bM c) 1) (uG c ((bM c).getD 1 0)).length:=rfl;rw [D] at f;have K:(uG c ((0:Nat):Int)).length<=64:=by have :=((bF _).1 (h.ls 0 (by rw [h.nl];exact B))).len;exact this
  generalize m:eK c n (bM c) (1+1)=Q at *;generalize eK c n (bM c) 1=e at *;refine Wy ?_
  refine⟨Nat,λt=>t<=2,λt=>⟨[(1,⟨[],true,.int .i64 n⟩),(2,⟨[],true,.ptr 0 0 0⟩),(5,⟨[],true,.sl 2 0 e.length⟩),(6,⟨[],true,.sl 1 0 2⟩),(7,⟨[],true,.int .i64 (([(-1),0,0]:List Int).getD t 0)⟩),(8,⟨[],true,.int .i64 (t:Int)⟩)],[(0,.box [.lst 15 false (aX c.fl),.lst 9 false (aO c.fr),.lst 6 false (aK c.zo),.lst 3 false [x.c,y.c],.lst 3 false (aU c.ls),.lst 1 false (aB c.ck),.lst 5 false (aN c.pt)]),(1,.row 1 (snB true 1)),(2,.row 1 (aB e))],3⟩,λ_=>(),λt=>2-t,⟨0,zA _,?_,rfl⟩,?_⟩
  ·exact Vr [some 0,some 1,some 2]
  intro t D;have z:t=0\/t=1\/t=2:=by omega
  rcases z with rfl |rfl |rfl
  ·dsimp only;rw [show([-1,0,0]:List Int).getD 0 0= -1 from rfl];refine Wy ?_;refine⟨1,by decide,?_,rfl,by decide⟩;exact Vr [some 0,some 1,some 2]
  ·dsimp only;rw [show([-1,0,0]:List Int).getD 1 0=0 from rfl];refine Wy ?_;refine⟨2,by decide,?_,rfl,by decide⟩;exact Vr [some 0,some 1,some 2]
  ·dsimp only;rw [show([-1,0,0]:List Int).getD 2 0=0 from rfl];refine Wy ?_;refine⟨⟨[(1,⟨[],true,.int .i64 n⟩),(2,⟨[],true,.ptr 0 0 0⟩),(5,⟨[],true,.sl 2 0 e.length⟩),(6,⟨[],true,.sl 1 0 2⟩),(7,⟨[],true,.int .i64 ((0:Nat):Int)⟩)],[(0,.box [.lst 15 false (aX c.fl),.lst 9 false (aO c.fr),.lst 6 false (aK c.zo),.lst 3 false [x.c,y.c],.lst 3 false (aU c.ls),.lst 1 false (aB c.ck),.lst 5 false (aN c.pt)]),(1,.row 1 (snB true 2)),(2,.row 1 (aB e))],3⟩,Vr [some 0,some 1,some 2],?_⟩
   refine aFT c h 0 B n e Q (by omega) _ _ 2 _ f λst' O=>?_;refine⟨1+1,⟨b,by rw [m,f];have :=lG (c:=c) (n:=n) (l:=uG c ((0:Nat):Int)) (out:=e) (uG c ((0:Nat):Int)).length;omega⟩,?_,rfl,by show 2-_<2-_;omega⟩;rw [m];exact O
 ·dsimp only;rw [T] at *;generalize q=e at *;refine Wy ?_
  refine⟨Nat,λt=>t<=2,λt=>⟨[(1,⟨[],true,.int .i64 n⟩),(2,⟨[],true,.ptr 0 0 0⟩),(5,⟨[],true,.sl 2 0 e.length⟩),(6,⟨[],true,.sl 1 0 2⟩),(7,⟨[],true,.int .i64 (([(-1),(-1),(-1)]:List Int).getD t 0)⟩),(8,⟨[],true,.int .i64 (t:Int)⟩)],[(0,.box [.lst 15 false (aX c.fl),.lst 9 false (aO c.fr),.lst 6 false (aK c.zo),.lst 3 false [x.c,y.c],.lst 3 false (aU c.ls),.lst 1 false (aB c.ck),.lst 5 false (aN c.pt)]),(1,.row 1 (snB true 2)),(2,.row 1 (aB e))],3⟩,λ_=>(),λt=>2-t,⟨0,zA _,?_,rfl⟩,?_⟩
  ·exact Vr [some 0,some 1,some 2]
  intro t D;have z:t=0\/t=1\/t=2:=by omega
  rcases z with rfl |rfl |rfl
  ·dsimp only;rw [show([-1,-1,-1]:List Int).getD 0 0= -1 from rfl];refine Wy ?_;refine⟨1,by decide,?_,rfl,by decide⟩;exact Vr [some 0,some 1,some 2]
  ·dsimp only;rw [show([-1,-1,-1]:List Int).getD 1 0= -1 from rfl];refine Wy ?_;refine⟨2,by decide,?_,rfl,by decide⟩;exact Vr [some 0,some 1,some 2]
  ·dsimp only;rw [show([-1,-1,-1]:List Int).getD 2 0= -1 from rfl];refine Wy ?_;exact Lz
theorem bPL(c:Dc)(h:Ok c)(h2:c.gr.length=2)(j:¬exT c 0<exT c 1)(n:Int):aM Tryz.prog 24 [] [.agg c.c,.int .i64 n] (.lst 1 false (aB (eK c n (bM c) (bM c).length))) []:=by
 have hol:=uM (c:=c) (by omega);rw [hol,h2];generalize T:eK c n (bM c) 2=q;have ab:=h.nr;obtain⟨x,y,E⟩:=two h2;obtain⟨F,G⟩:=uA h.gr (show 0<c.gr.length by omega);obtain⟨H,J⟩:=uA h.gr (show 1<c.gr.length by omega);have R:bM c=[0,1]:=by unfold bM aIY;rw [h2,zdf j];rfl
 unfold exT at j;rw [E] at F G H J j;have j:¬iF x<iF y:=j;have kx:=aOR x F G;have ky:=aOR y H J;clear F G H J;have Y:aQ c.gr=[x.c,y.c]:=by rw [E];rfl
 have N:([x.c,y.c]:List (List V)).length=2:=rfl;generalize iF x=ex at *;generalize iF y=ey at *;show aM Tryz.prog 24 [] [.agg [.lst 15 false (aX c.fl),.lst 9 false (aO c.fr),.lst 6 false (aK c.zo),.lst 3 false (aQ c.gr),.lst 3 false (aU c.ls),.lst 1 false (aB c.ck),.lst 5 false (aN c.pt)],.int .i64 n] _ _;rw [Y];refine fnE Tryz.func24 rfl rfl rfl bNM ?_;refine Wy ?_
 refine⟨Nat,λk=>k<=2/\(eK c n (bM c) k).length<=64*k,λk=>⟨[(1,⟨[],true,.int .i64 n⟩),(2,⟨[],true,.ptr 0 0 0⟩),(5,⟨[],true,.sl 2 0 (eK c n (bM c) k).length⟩),(6,⟨[],true,.sl 1 0 2⟩)],[(0,.box [.lst 15 false (aX c.fl),.lst 9 false (aO c.fr),.lst 6 false (aK c.zo),.lst 3 false [x.c,y.c],.lst 3 false (aU c.ls),.lst 1 false (aB c.ck),.lst 5 false (aN c.pt)]),(1,.row 1 (snB false k)),(2,.row 1 (aB (eK c n (bM c) k)))],3⟩,λ_=>(),λk=>2-k,⟨0,⟨zA _,Nat.le_refl _⟩,?_,rfl⟩,?_⟩
 ·exact Vr [some 0,some 1,none]
 rintro k ⟨Z,aa⟩
 by_cases W:((eK c n (bM c) k).length:Int)<n
 rotate_left
 ·have C:=vL W 2 Z;rw [T] at C;dsimp only;generalize eK c n (bM c) k=e at *;subst C;generalize(snB false k)=sr at *;refine Wy ?_;exact Lz
 have M:k=0\/k=1\/k=2:=by omega
 rcases M with rfl |rfl |rfl
 ·dsimp only;have D:(bM c).getD 0 0=((0:Nat):Int):=by rw [R];rfl
  have B:0<c.gr.length:=by omega
  have b:0+1<=2:=by decide
  have f:eK c n (bM c) (0+1)=jC c n (uG c ((bM c).getD 0 0)) (eK c n (bM c) 0) (uG c ((bM c).getD 0 0)).length:=rfl;rw [D] at f;have K:(uG c ((0:Nat):Int)).length<=64:=by have :=((bF _).1 (h.ls 0 (by rw [h.nl];exact B))).len;exact this
  generalize m:eK c n (bM c) (0+1)=Q at *;generalize eK c n (bM c) 0=e at *;refine Wy ?_
  refine⟨Nat,λt=>t<=2,λt=>⟨[(1,⟨[],true,.int .i64 n⟩),(2,⟨[],true,.ptr 0 0 0⟩),(5,⟨[],true,.sl 2 0 e.length⟩),(6,⟨[],true,.sl 1 0 2⟩),(7,⟨[],true,.int .i64 (([(-1),0,0]:List Int).getD t 0)⟩),(8,⟨[],true,.int .i64 (t:Int)⟩)],[(0,.box [.lst 15 false (aX c.fl),.lst 9 false (aO c.fr),.lst 6 false (aK c.zo),.lst 3 false [x.c,y.c],.lst 3 false (aU c.ls),.lst 1 false (aB c.ck),.lst 5 false (aN c.pt)]),(1,.row 1 (snB false 0)),(2,.row 1 (aB e))],3⟩,λ_=>(),λt=>2-t,⟨0,zA _,?_,rfl⟩,?_⟩
  ·exact Vr [some 0,some 1,some 2]
  intro t D;have z:t=0\/t=1\/t=2:=by omega
  rcases z with rfl |rfl |rfl
  ·dsimp only;rw [show([-1,0,0]:List Int).getD 0 0= -1 from rfl];refine Wy ?_;refine⟨1,by decide,?_,rfl,by decide⟩;exact Vr [some 0,some 1,some 2]
  ·dsimp only;rw [show([-1,0,0]:List Int).getD 1 0=0 from rfl];refine Wy ?_;refine⟨2,by decide,?_,rfl,by decide⟩;exact Vr [some 0,some 1,some 2]
  ·dsimp only;rw [show([-1,0,0]:List Int).getD 2 0=0 from rfl];refine Wy ?_;refine⟨⟨[(1,⟨[],true,.int .i64 n⟩),(2,⟨[],true,.ptr 0 0 0⟩),(5,⟨[],true,.sl 2 0 e.length⟩),(6,⟨[],true,.sl 1 0 2⟩),(7,⟨[],true,.int .i64 ((0:Nat):Int)⟩)],[(0,.box [.lst 15 false (aX c.fl),.lst 9 false (aO c.fr),.lst 6 false (aK c.zo),.lst 3 false [x.c,y.c],.lst 3 false (aU c.ls),.lst 1 false (aB c.ck),.lst 5 false (aN c.pt)]),(1,.row 1 (snB false 1)),(2,.row 1 (aB e))],3⟩,Vr [some 0,some 1,some 2],?_⟩
   refine aFT c h 0 B n e Q (by omega) _ _ 2 _ f λst' O=>?_;refine⟨0+1,⟨b,by rw [m,f];have :=lG (c:=c) (n:=n) (l:=uG c ((0:Nat):Int)) (out:=e) (uG c ((0:Nat):Int)).length;omega⟩,?_,rfl,by show 2-_<2-_;omega⟩;rw [m];exact O
 ·dsimp only;have D:(bM c).getD 1 0=((1:Nat):Int):=by rw [R];rfl
  have B:1<c.gr.length:=by omega
  have b:1+1<=2:=by decide
  have f:eK c n (bM c) (1+1)=jC c n (uG c ((bM c).getD 1 0)) (eK c n (bM c) 1) (uG c ((bM c).getD 1 0)).length:=rfl;rw [D] at f;have K:(uG c ((1:Nat):Int)).length<=64:=by have :=((bF _).1 (h.ls 1 (by rw [h.nl];exact B))).len;exact this
  generalize m:eK c n (bM c) (1+1)=Q at *;generalize eK c n (bM c) 1=e at *;refine Wy ?_
  refine⟨Nat,λt=>t<=2,λt=>⟨[(1,⟨[],true,.int .i64 n⟩),(2,⟨[],true,.ptr 0 0 0⟩),(5,⟨[],true,.sl 2 0 e.length⟩),(6,⟨[],true,.sl 1 0 2⟩),(7,⟨[],true,.int .i64 (([(-1),(-1),1]:List Int).getD t 0)⟩),(8,⟨[],true,.int .i64 (t:Int)⟩)],[(0,.box [.lst 15 false (aX c.fl),.lst 9 false (aO c.fr),.lst 6 false (aK c.zo),.lst 3 false [x.c,y.c],.lst 3 false (aU c.ls),.lst 1 false (aB c.ck),.lst 5 false (aN c.pt)]),(1,.row 1 (snB false 1)),(2,.row 1 (aB e))],3⟩,λ_=>(),λt=>2-t,⟨0,zA _,?_,rfl⟩,?_⟩
  ·exact Vr [some 0,some 1,some 2]
  intro t D;have z:t=0\/t=1\/t=2:=by omega
  rcases z with rfl |rfl |rfl
  ·dsimp only;rw [show([-1,-1,1]:List Int).getD 0 0= -1 from rfl];refine Wy ?_;refine⟨1,by decide,?_,rfl,by decide⟩;exact Vr [some 0,some 1,some 2]
  ·dsimp only;rw [show([-1,-1,1]:List Int).getD 1 0= -1 from rfl];refine Wy ?_;refine⟨2,by decide,?_,rfl,by decide⟩;exact Vr [some 0,some 1,some 2]
  ·dsimp only;rw [show([-1,-1,1]:List Int).getD 2 0=1 from rfl];refine Wy ?_;refine⟨⟨[(1,⟨[],true,.int .i64 n⟩),(2,⟨[],true,.ptr 0 0 0⟩),(5,⟨[],true,.sl 2 0 e.length⟩),(6,⟨[],true,.sl 1 0 2⟩),(7,⟨[],true,.int .i64 ((1:Nat):Int)⟩)],[(0,.box [.lst 15 false (aX c.fl),.lst 9 false (aO c.fr),.lst 6 false (aK c.zo),.lst 3 false [x.c,y.c],.lst 3 false (aU c.ls),.lst 1 false (aB c.ck),.lst 5 false (aN c.pt)]),(1,.row 1 (snB false 2)),(2,.row 1 (aB e))],3⟩,Vr [some 0,some 1,some 2],?_⟩
   refine aFT c h 1 B n e Q (by omega) _ _ 2 _ f λst' O=>?_;refine⟨1+1,⟨b,by rw [m,f];have :=lG (c:=c) (n:=n) (l:=uG c ((1:Nat):Int)) (out:=e) (uG c ((1:Nat):Int)).length;omega⟩,?_,rfl,by show 2-_<2-_;omega⟩;rw [m];exact O
 ·dsimp only;rw [T] at *;generalize q=e at *;refine Wy ?_
  refine⟨Nat,λt=>t<=2,λt=>⟨[(1,⟨[],true,.int .i64 n⟩),(2,⟨[],true,.ptr 0 0 0⟩),(5,⟨[],true,.sl 2 0 e.length⟩),(6,⟨[],true,.sl 1 0 2⟩),(7,⟨[],true,.int .i64 (([(-1),(-1),(-1)]:List Int).getD t 0)⟩),(8,⟨[],true,.int .i64 (t:Int)⟩)],[(0,.box [.lst 15 false (aX c.fl),.lst 9 false (aO c.fr),.lst 6 false (aK c.zo),.lst 3 false [x.c,y.c],.lst 3 false (aU c.ls),.lst 1 false (aB c.ck),.lst 5 false (aN c.pt)]),(1,.row 1 (snB false 2)),(2,.row 1 (aB e))],3⟩,λ_=>(),λt=>2-t,⟨0,zA _,?_,rfl⟩,?_⟩
  ·exact Vr [some 0,some 1,some 2]
  intro t D;have z:t=0\/t=1\/t=2:=by omega
  rcases z with rfl |rfl |rfl
  ·dsimp only;rw [show([-1,-1,-1]:List Int).getD 0 0= -1 from rfl];refine Wy ?_;refine⟨1,by decide,?_,rfl,by decide⟩;exact Vr [some 0,some 1,some 2]
  ·dsimp only;rw [show([-1,-1,-1]:List Int).getD 1 0= -1 from rfl];refine Wy ?_;refine⟨2,by decide,?_,rfl,by decide⟩;exact Vr [some 0,some 1,some 2]
  ·dsimp only;rw [show([-1,-1,-1]:List Int).getD 2 0= -1 from rfl];refine Wy ?_;exact Lz
end Go.Proofs.YtmhapcbjjpadnaaGreat
