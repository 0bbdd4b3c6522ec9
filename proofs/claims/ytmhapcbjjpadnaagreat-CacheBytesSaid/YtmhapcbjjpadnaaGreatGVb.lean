/- Caches. -/
import Derived.Test.YtmhapcbjjpadnaaGreatGUb
import Derived.Test.YtmhapcbjjpadnaaGreatXYAb
set_option linter.all false
set_option maxHeartbeats 16000000
set_option maxRecDepth 40000
namespace Go.Proofs.YtmhapcbjjpadnaaGreat
open Go Go.Sk Go.RowKit
theorem aYY(L:List Int)(I:Nat): -9223372036854775808<=aYX L I/\aYX L I<=4611686018427387904:=by
 have key:∀x∈aYZ,(-9223372036854775808<=x/\x<=4611686018427387904):=by decide
 unfold aYX
 generalize(nxV L I 19).toNat=k
 rw [List.getD_eq_getElem?_getD]
 cases e:aYZ[k]? with
 |none=>exact⟨by decide,by decide⟩
 |some x=>exact key x (List.mem_of_getElem? e)
theorem bDZ(L:List Int) {J:Nat} (hL:(L.length:Int)<2^62)(hJ:J<=L.length):∃(v:Int) (J':Nat),(-9223372036854775808<=v/\v<=4611686018427387904)/\J'<=L.length/\aM Tryz.prog 34 [lC L J] [.ptr 0 0 0] (.int .i64 v) [lC L J']:=
 ⟨_,_,aYY L J,aNE L J hJ,bM8 L J hL hJ⟩
theorem aD8 {a b:Dc} (s:mZ a b)(o:Ok b)(e:Int):aM Tryz.prog 41 [] [.agg a.c,.agg b.c,.int .i64 e,.int .i64 e] (.bool true) []:=bMB a b o s e
noncomputable def R8:Rsv Tryz.prog Tryz.f8 [.c 41,.c 64] 1:=⟨_,_,rfl,rfl⟩
theorem ok8(L:List Int)(hL:(L.length:Int)<2^62):aM Tryz.prog 8 [] [.lst 1 false (aE L)] (.bool true) []:=by
 obtain⟨c,J0,hd,hJ0,k39⟩:=bMA L hL
 obtain⟨hok,hcf,hcg,hcz,hcr⟩:=hd.ok
 have hM:=hd.okM
 clear hd
 obtain⟨f,J1,hf,hJ1,k1⟩:=draw L hL hJ0 4 (by decide) (by decide)
 obtain⟨off,J2,hoff,hJ2,k2⟩:=draw L hL hJ1 50 (by decide) (by decide)
 obtain⟨n,J3,hn,hJ3,k3⟩:=draw L hL hJ2 50 (by decide) (by decide)
 obtain⟨t,J4,ht,hJ4,k4⟩:=draw L hL hJ3 9 (by decide) (by decide)
 obtain⟨q,J5,hq,hJ5,k5⟩:=draw L hL hJ4 6 (by decide) (by decide)
 obtain⟨v,J6,hv,hJ6,k6⟩:=bDZ L hL hJ5
 refine bE R8 (ob0:= []) Tryz.func8 rfl rfl rfl ?_
 refine Wy ?_
 refine⟨Nat×Int×Int,λx=>x.1<=L.length/\(-9223372036854775808<=x.2.2/\x.2.2<=4611686018427387904)/\-1<=x.2.1/\x.2.1<=4,λx=>⟨[(2,⟨[],true,.bool false⟩),(3,⟨[],true,.ptr 1 0 0⟩),(4,⟨[],true,.ptr 0 0 0⟩),(5,⟨[],true,.int .i64 x.2.1⟩),(6,⟨[],true,.int .i64 x.2.2⟩),(7,⟨[],true,.int .i64 (n:Int)⟩)],[(0,lC L x.1),(1,.box c.c)],2⟩,?_,λx hx=>?_⟩
 ·refine Wy ?_
  refine bD2 (λe=>?_) (λe=>?_)
  ·refine Wy ?_
   refine⟨(J6,(q:Int)-1,v),⟨hJ6,hv,by dsimp only;omega,by dsimp only;omega⟩,?_⟩
   exact Vr [_,_]
  ·refine Wy ?_
   refine⟨(J4,(f:Int),(off:Int)),⟨hJ4,by dsimp only;omega,by dsimp only;omega,by dsimp only;omega⟩,?_⟩
   exact Vr [_,_]
 clear k39 k1 k2 k3 k4 k5 k6
 obtain⟨J,f',off'⟩:=x
 obtain⟨hJ,ho,hf1,hf2⟩:=hx
 dsimp only at hJ ho hf1 hf2⊢
 clear hoff hf hv
 obtain⟨m,Ja,hm,hJa,ka⟩:=draw L hL hJ 24 (by decide) (by decide)
 obtain⟨s,Jb,hs,hJb,kb⟩:=bJJ L hL hJa m (by omega)
 obtain⟨w,Jc,hw,hJc,kc⟩:=draw L hL hJb 2 (by decide) (by decide)
 refine Wy ?_
 refine⟨Nat×Dc,λx=>x.1<=L.length/\Ok x.2/\fZ x.2,λx=>⟨[(2,⟨[],true,.bool false⟩),(3,⟨[],true,.ptr 1 0 0⟩),(4,⟨[],true,.ptr 0 0 0⟩),(5,⟨[],true,.int .i64 f'⟩),(6,⟨[],true,.int .i64 off'⟩),(7,⟨[],true,.int .i64 (n:Int)⟩),(8,⟨[],true,.str s⟩)],[(0,lC L x.1),(1,.box x.2.c)],2⟩,?_,λx hx=>?_⟩
 ·by_cases hr:0<=f'/\f'< (c.fl.length:Int)
  ·obtain⟨g,rfl⟩:∃g:Nat,f'=(g:Int):=⟨f'.toNat,by omega⟩
   have k51:=bJL c hok g (by omega) off' (s.size:Int) ho (by omega)
   have o2:=(tK hok g (pQ c g off' (s.size:Int)) (pQ c g off' (s.size:Int)).length).1
   have m2:=aEY hok hM g (pQ c g off' (s.size:Int)) (pQ c g off' (s.size:Int)).length
   generalize aA0 c g (pQ c g off' (s.size:Int)) (pQ c g off' (s.size:Int)).length=d at *
   by_cases hw0:w=0
   ·subst hw0
    refine Wy ?_
    refine⟨(Jc,d),⟨hJc,o2,m2⟩,?_⟩
    exact Vr [_,_]
   ·refine Wy ?_
    refine⟨(Jc,c),⟨hJc,hok,hM⟩,?_⟩
    exact Vr [_,_]
  ·have hr:f'<0\/(c.fl.length:Int)<=f':=by omega
   by_cases hw0:w=0
   ·subst hw0
    rcases hr with hr |hr
    ·refine Wy ?_
     refine⟨(Jc,c),⟨hJc,hok,hM⟩,?_⟩
     exact Vr [_,_]
    ·by_cases hr0:0<=f'
     ·refine Wy ?_
      refine⟨(Jc,c),⟨hJc,hok,hM⟩,?_⟩
      exact Vr [_,_]
     ·omega
   ·refine Wy ?_
    refine⟨(Jc,c),⟨hJc,hok,hM⟩,?_⟩
    exact Vr [_,_]
 obtain⟨J2,d⟩:=x
 obtain⟨hJ2,ok2,okm2⟩:=hx
 dsimp only at hJ2 ok2 okm2⊢
 clear ka kb kc hok hM hcf hcg hcz hcr
 obtain⟨w2,Jd,hw2,hJd,kd⟩:=draw L hL hJ2 2 (by decide) (by decide)
 obtain⟨uk,ub,uR,ue,k52,k53,hu⟩:=bKU d ok2 f' off' (n:Int) ((w2:Int)==0)
 have k54:aM Tryz.prog 54 [] [.lst uk ub uR,.lst uk ub uR] (.bool true) []:=by
  rcases hu with ⟨rfl,rfl,rfl⟩| ⟨l,rfl,rfl,rfl,hl⟩
  ·exact bJN
  ·exact bMG l hl
 clear hu
 obtain⟨a1,b1,d1,e1,k55,k32,s1,o1⟩:=bKB d ok2 f' off' (n:Int)
 have c1:=aD8 s1 o1 e1
 obtain⟨a2,b2,e2,k56,k57,s2,o2⟩:=bKZ d ok2 okm2 f' off' s (by omega)
 have c2:=aD8 s2 o2 e2
 obtain⟨x1,x2,x3,k58,k59⟩:=bGE d ok2 f' off' (n:Int)
 obtain⟨y1,y2,k60,k61⟩:=bKR d ok2 f' off'
 obtain⟨a3,b3,e3,k62,k63,s3,o3⟩:=bK3 d ok2 f' off' (n:Int)
 have c3:=aD8 s3 o3 e3
 obtain⟨a4,b4,e4,k64,k31,s4,o4⟩:=bKT d ok2 f' off'
 have c4:=aD8 s4 o4 e4
 obtain⟨zk,zb,zR,hz,k65,k66⟩:=bK1 off' (n:Int)
 have k38:=bM9
 clear s1 o1 s2 o2 s3 o3 s4 o4 ok2 okm2
 have hse:lB d1 d1=true:=aF8 d1
 cases x3 with
 |true=>
  refine Wy ?_
  try rw [hse]
  exact jR
 |false=>
  refine Wy ?_
  try rw [hse]
  exact jR
end Go.Proofs.YtmhapcbjjpadnaaGreat
