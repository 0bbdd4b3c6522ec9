/- Caches. -/
import Derived.Test.YtmhapcbjjpadnaaGreatIBe
import Derived.Test.YtmhapcbjjpadnaaGreatGRb
import Derived.Test.YtmhapcbjjpadnaaGreatGPb
import Derived.Test.YtmhapcbjjpadnaaGreatXYAb
set_option linter.all false
set_option maxHeartbeats 16000000
set_option maxRecDepth 40000
namespace Go.Proofs.YtmhapcbjjpadnaaGreat
open Go Go.Sk Go.RowKit
theorem put_self {c:Dc} (h:Ok c)(hm:fZ c) {m:Nat} {u:Us} (h1:m<c.fr.length)(h2:c.fr.getD m none=some u):c.put m u=c:=by
 rw [put_setU h hm h1 h2 rfl rfl]
 unfold Dc.setU
 rw [aLK h1 h2.symm]
theorem ent_ex {c:Dc} (h:Ok c)(hm:fZ c) {m:Nat} {u:Us} (h1:m<c.fr.length)(h2:c.fr.getD m none=some u)(l:List Pt)(hl:kQ l=true)(w:Bool):∃W:Dc,Ok W/\tX W (c.x.pts l)/\W.fr.getD m none=some (aDU u w)/\W.acc m u.ten=((c.x.put m (aDU u w)).acc m u.ten).pts l/\(w=true->aM Tryz.prog 168 (c.x.pts l).b [.ptr 0 0 0,.int .i64 ((m+1:Nat):Int),.int .i64 3] (.tup []) W.b)/\(w=false->W=c.x.pts l):=by
 have o:=h.x.pts hl
 cases w with
 |true=>exact⟨(c.x.pts l).put m (dQ u (gR u.p 3)),o.put' h1 h2 (mO (h.use m u h1 h2).pg (by decide)),tX.put ⟨rfl,rfl,rfl,rfl,rfl,rfl,rfl⟩ _ _,aJ _ _ _ _ h1,rfl,λ_=>bB3 (c.x.pts l) o m u h1 h2 3 (by decide),(λx=>by cases x)⟩
 |false=>
  refine⟨c.x.pts l,o,⟨rfl,rfl,rfl,rfl,rfl,rfl,rfl⟩,h2,?_,(λx=>by cases x),λ_=>rfl⟩
  show(c.x.pts l).acc m u.ten=((c.x.put m u).acc m u.ten).pts l
  rw [put_self h.x hm h1 h2]
  rfl
noncomputable def R67:aJ9 Tryz.prog Tryz.f67 [] 6:=⟨_,_,_,_,_,_,_,rfl,rfl,rfl⟩
theorem ok67(c:Dc)(h:Ok c)(hm:fZ c)(pr pg f a:Int)(w:Bool):aM Tryz.prog 67 [] [.agg c.c,.int .i64 pr,.int .i64 pg,.int .i64 f,.int .i64 a,.bool w] (.tup [.agg (aAM c.x pr pg f a w).1.c,.int .i64 (aAM c.x pr pg f a w).2]) []:=by
 have k82:=aRQ c h
 have k141:=aN4 c f
 generalize hq:aAM c.x pr pg f a w=q
 unfold aAM inE at hq
 by_cases hk:¬(0<=f/\f< (c.fl.length:Int))
 ·rw [decide_eq_false hk] at k141
  rw [decide_eq_false (λe=>hk e.1),cond_false] at hq
  subst hq
  refine dF R67 (ob0:= []) cE Tryz.func67 rfl rfl rfl ?_
  exact jR
 have hk:=Decidable.not_not.1 hk
 rw [decide_eq_true hk] at k141
 by_cases hin:¬((0<=pr/\pr<8)/\(0<=pg/\pg<64)/\0<=a/\a<8)
 ·rw [decide_eq_false (λe=>hin e.2),cond_false] at hq
  subst hq
  by_cases h1:pr<0
  ·refine dF R67 (ob0:= []) cE Tryz.func67 rfl rfl rfl ?_
   exact jR
  by_cases h2:8<=pr
  ·refine dF R67 (ob0:= []) cE Tryz.func67 rfl rfl rfl ?_
   exact jR
  by_cases h3:pg<0
  ·refine dF R67 (ob0:= []) cE Tryz.func67 rfl rfl rfl ?_
   exact jR
  by_cases h4:64<=pg
  ·refine dF R67 (ob0:= []) cE Tryz.func67 rfl rfl rfl ?_
   exact jR
  by_cases h5:a<0
  ·refine dF R67 (ob0:= []) cE Tryz.func67 rfl rfl rfl ?_
   exact jR
  have h6:8<=a:=by omega
  refine dF R67 (ob0:= []) cE Tryz.func67 rfl rfl rfl ?_
  exact jR
 have hin:=Decidable.not_not.1 hin
 rw [decide_eq_true (show(0<=f/\f< (c.x.fl.length:Int))/\(0<=pr/\pr<8)/\(0<=pg/\pg<64)/\0<=a/\a<8 from⟨hk,hin⟩),cond_true] at hq
 obtain⟨f,rfl⟩:∃g:Nat,f=(g:Int):=⟨f.toNat,by omega⟩
 obtain⟨a,rfl⟩:∃g:Nat,a=(g:Int):=⟨a.toNat,by omega⟩
 simp only [Int.toNat_natCast] at hq
 have hf:f<c.fl.length:=by omega
 have hgf:=iS hf
 have hs:=(h.file f hf).size
 obtain⟨k0,k1,k2,k3,hfc,-⟩:=Df.cells (h.file f hf).E
 rw [hfc] at hgf
 unfold aR4 at hq
 rw [show c.x.fl.getD f aP=c.fl.getD f aP from rfl,show eA c.x f a=eA c f a from rfl,show c.x.pt=c.pt from rfl] at hq
 generalize(c.fl.getD f aP).size=z at *
 by_cases b1:z<=a*16
 ·rw [decide_eq_true b1,cond_true] at hq
  subst hq
  refine dF R67 (ob0:= []) cE Tryz.func67 rfl rfl rfl ?_
  exact jR
 rw [decide_eq_false b1,cond_false] at hq
 cases hp:eA c f a with
 |none=>
  rw [hp] at hq
  have k138:=h.f138n hf (by omega) hp
  subst hq
  refine dF R67 (ob0:= []) cE Tryz.func67 rfl rfl rfl ?_
  exact jR
 |some x=>
  obtain⟨m,u⟩:=x
  rw [hp] at hq
  have k138:=h.f138s hf (by omega) hp
  obtain⟨q1,q2,q3,q4,q5⟩:=bM h hf hp
  have hu:=h.use m u q1 q2
  have hgu:=jB q1 q2
  have hnr:=h.nr
  dsimp only at hq
  by_cases b2:u.p.v≠3
  ·rw [decide_eq_true b2] at hq
   subst hq
   cases w
   all_goals
    refine dF R67 (ob0:= []) cE Tryz.func67 rfl rfl rfl ?_
    exact jR
  have b2:=Decidable.not_not.1 b2
  by_cases b3:w=true/\u.wr≠0
  ·rw [b3.1,decide_eq_false (show ¬u.p.v≠3 from λe=>e b2),decide_eq_true b3.2] at hq
   obtain⟨rfl,b3⟩:=b3
   subst hq
   refine dF R67 (ob0:= []) cE Tryz.func67 rfl rfl rfl ?_
   exact jR
  have hr:=aW3 h hin.1 hin.2.1 q1 w
  have k174:=ok174 c.pt (aRM pr pg m w) (aJP h.pt) h.pt hr
  have hT:=aY2 h.pt hr
  rw [show aMZ c.pt (aRM pr pg m w)=aY1 c.pt (aRM pr pg m w) from aY3 h.pt hr] at hq
  have hq:(((c.x.put m (aDU u w)).acc m u.ten).pts (aY1 c.pt (aRM pr pg m w)),(0:Int))=q:=by
   rw [<-hq,decide_eq_false (show ¬u.p.v≠3 from λe=>e b2)]
   cases w with
   |false=>rfl
   |true=>rw [decide_eq_false (λe=>b3 ⟨rfl,e⟩)];rfl
  generalize aY1 c.pt (aRM pr pg m w)=T at *
  obtain⟨W,w1,w2,w3,w4,w5,w6⟩:=ent_ex h hm q1 q2 T hT w
  rw [<-w4] at hq
  subst hq
  have hWr:m<W.fr.length:=by rw [w2.l2];exact q1
  have k97:=bJZ W m (aDU u w) hWr w3 w1.nr (by rw [(aHJ hu.pg w).2.2.2.2.2,w1.nl];have :=(w1.use m _ hWr w3).ten;rwa [(aHJ hu.pg w).2.2.2.2.2] at this) (w1.smL _)
  rw [(aHJ hu.pg w).2.2.2.2.2] at k97
  have hwf:(W.acc m u.ten).fl=W.fl:=rfl
  have hwr:(W.acc m u.ten).fr=W.fr:=rfl
  rw [(w2.acc m u.ten).b,hwf,hwr,w2.b] at k97
  cases w with
  |true=>
   have k168:=w5 rfl
   rw [w2.b] at k168
   have b3:u.wr=0:=by
    by_cases e:u.wr=0
    ·exact e
    ·exact absurd ⟨rfl,e⟩ b3
   have l1:=w2.l1
   have l2:=w2.l2
   have l3:=(w2.acc m u.ten).l3
   have z1:=w2.zo
   have z2:=w2.gr
   have z3:=w2.ck
   have z4:=w2.pt
   unfold Dc.c
   dsimp only
   rw [(w2.acc m u.ten).zo,(w2.acc m u.ten).gr,(w2.acc m u.ten).ck,(w2.acc m u.ten).pt,hwf,hwr]
   clear w1 w2 w3 w4 w5 w6 hT
   generalize(W.acc m u.ten).ls=LS at *
   refine dF R67 (ob0:= []) cE Tryz.func67 rfl rfl rfl ?_
   exact jR
  |false=>
   have k175:=w6 rfl
   have l1:=w2.l1
   have l2:=w2.l2
   have l3:=(w2.acc m u.ten).l3
   unfold Dc.c
   dsimp only
   rw [(w2.acc m u.ten).zo,(w2.acc m u.ten).gr,(w2.acc m u.ten).ck,(w2.acc m u.ten).pt,hwf,hwr]
   clear w1 w2 w3 w4 w5 w6 hT
   subst k175
   clear hwf hwr
   generalize((c.x.pts T).acc m u.ten).ls=LS at *
   refine dF R67 (ob0:= []) cE Tryz.func67 rfl rfl rfl ?_
   exact jR
theorem ent_sim {c:Dc} (pr pg f a:Int)(w:Bool):mZ (aAM c.x pr pg f a w).1 (aAM c pr pg f a w).1/\(aAM c.x pr pg f a w).2=(aAM c pr pg f a w).2:=by
 unfold aAM
 rw [show inE c.x pr pg f a=inE c pr pg f a from rfl]
 cases inE c pr pg f a with
 |false=>exact⟨.x c,rfl⟩
 |true=>
  rw [cond_true,cond_true]
  unfold aR4
  rw [show c.x.fl.getD f.toNat aP=c.fl.getD f.toNat aP from rfl,show eA c.x f.toNat a.toNat=eA c f.toNat a.toNat from rfl,show c.x.pt=c.pt from rfl]
  cases decide ((c.fl.getD f.toNat aP).size<=a.toNat*16) with
  |true=>exact⟨.x c,rfl⟩
  |false=>
   rw [cond_false,cond_false]
   cases eA c f.toNat a.toNat with
   |none=>exact⟨.x c,rfl⟩
   |some x=>
    dsimp only
    cases(decide (x.2.p.v≠3)||(w&&decide (x.2.wr≠0))) with
    |true=>exact⟨.x c,rfl⟩
    |false=>exact⟨⟨rfl,rfl,aYV _,rfl,rfl,rfl,rfl⟩,rfl⟩
end Go.Proofs.YtmhapcbjjpadnaaGreat
namespace Go.Proofs.YtmhapcbjjpadnaaGreat
open Go Go.Sk Go.RowKit
theorem en_ex(c:Dc)(h:Ok c)(hm:fZ c)(pr pg f a:Int)(w:Bool):∃(x y:Dc) (e:Int),aM Tryz.prog 67 [] [.agg c.c,.int .i64 pr,.int .i64 pg,.int .i64 f,.int .i64 a,.bool w] (.tup [.agg x.c,.int .i64 e]) []/\aM Tryz.prog 68 [] [.agg c.c,.int .i64 pr,.int .i64 pg,.int .i64 f,.int .i64 a,.bool w] (.tup [.agg y.c,.int .i64 e]) []/\aM Tryz.prog 41 [] [.agg x.c,.agg y.c,.int .i64 e,.int .i64 e] (.bool true) []:=by
 have k67:=ok67 c h hm pr pg f a w
 have k68:=bMO c h pr pg f a w
 obtain⟨s,e⟩:=ent_sim (c:=c) pr pg f a w
 rw [e] at k67
 exact⟨_,_,_,k67,k68,bMB _ _ (aY0 h pr pg f a w) s _⟩
theorem odd_any(L:List Int) {J:Nat} (hL:(L.length:Int)<2^62)(hJ:J<=L.length):∃(v:Int) (J':Nat),J'<=L.length/\aM Tryz.prog 34 [lC L J] [.ptr 0 0 0] (.int .i64 v) [lC L J']:=
 ⟨_,_,aNE L J hJ,bM8 L J hL hJ⟩
noncomputable def R9:Rsv Tryz.prog Tryz.f9 [] 1:=⟨_,_,rfl,rfl⟩
theorem ok9(L:List Int)(hL:(L.length:Int)<2^62):aM Tryz.prog 9 [] [.lst 1 false (aE L)] (.bool true) []:=by
 obtain⟨c,J0,hd,hJ0,k39⟩:=bMA L hL
 obtain⟨hok,hcf,hcg,hcz,hcr⟩:=hd.ok
 have hM:=hd.okM
 clear hd
 obtain⟨pr,J1,hpr,hJ1,k1⟩:=draw L hL hJ0 4 (by decide) (by decide)
 obtain⟨pg,J2,hpg,hJ2,k2⟩:=draw L hL hJ1 6 (by decide) (by decide)
 obtain⟨f,J3,hf,hJ3,k3⟩:=draw L hL hJ2 3 (by decide) (by decide)
 obtain⟨a,J4,ha,hJ4,k4⟩:=draw L hL hJ3 4 (by decide) (by decide)
 obtain⟨w,J5,hw,hJ5,k5⟩:=draw L hL hJ4 2 (by decide) (by decide)
 obtain⟨t,J6,ht,hJ6,k6⟩:=draw L hL hJ5 9 (by decide) (by decide)
 obtain⟨v1,J7,hJ7,k7⟩:=odd_any L hL hJ6
 have k38:=bM9
 by_cases t0:t=0
 ·subst t0
  obtain⟨q,J8,hq,hJ8,k8⟩:=draw L hL hJ7 5 (by decide) (by decide)
  obtain⟨x,y,e,k67,k68,k41⟩:=en_ex c hok hM v1 (pg:Int) ((q:Int)-1) (a:Int) ((w:Int)==0)
  clear hok hM
  refine bE R9 (ob0:= []) Tryz.func9 rfl rfl rfl ?_
  exact jR
 by_cases t1:t=1
 ·subst t1
  obtain⟨v2,J8,hJ8,k8⟩:=odd_any L hL hJ7
  obtain⟨x,y,e,k67,k68,k41⟩:=en_ex c hok hM (pr:Int) v1 (f:Int) v2 ((w:Int)==0)
  clear hok hM
  refine bE R9 (ob0:= []) Tryz.func9 rfl rfl rfl ?_
  exact jR
 obtain⟨x,y,e,k67,k68,k41⟩:=en_ex c hok hM (pr:Int) (pg:Int) (f:Int) (a:Int) ((w:Int)==0)
 clear hok hM
 refine bE R9 (ob0:= []) Tryz.func9 rfl rfl rfl ?_
 exact jR
end Go.Proofs.YtmhapcbjjpadnaaGreat
