/- Caches. -/
import Derived.Test.YtmhapcbjjpadnaaGreatGYc
import Derived.Test.YtmhapcbjjpadnaaGreatXS5c
import Derived.Test.YtmhapcbjjpadnaaGreatK8c
import Derived.Test.YtmhapcbjjpadnaaGreatG8c
set_option linter.all false
set_option maxHeartbeats 16000000
set_option maxRecDepth 40000
open List renaming replicate→zA,length_replicate→zC,getD_eq_getElem?_getD→zD,map_replicate→zE,getElem?_replicate→zF
namespace Go.Proofs.YtmhapcbjjpadnaaGreat
open Go Go.Sk Go.RowKit
theorem aMK(L:List Int)(z:(L.length:Int)<2^62)(c:Dc)(h:Ok c)(h3:c.fl.length=3) {J:Nat} (hJ:J<=L.length):
 ∃(c':Dc) (J':Nat),pS c c'/\J'<=L.length/\aM Tryz.prog 184 [oT L J] [.ptr 0 0 0,.agg c.c] (.agg c'.c) [oT L J']:=by
 obtain⟨f,J1,hf,ac,k1⟩:=draw L z hJ 3 (by decide) (by decide);obtain⟨p,J2,hp,ad,k2⟩:=draw L z ac 8 (by decide) (by decide);obtain⟨o,J3,ho,ae,k3⟩:=draw L z ad 128 (by decide) (by decide);obtain⟨v,J4,Y,B,k4⟩:=draw L z ae 14 (by decide) (by decide);have O:f<c.fl.length:=by omega
 have Y:(v=0\/v=1)\/(v=2\/v=3\/v=4)\/v=5\/v=6\/v=7\/v=8\/v=9\/v=10\/v=11\/v=12\/v=13:=by omega
 rcases Y with Y |Y |rfl |rfl |rfl |rfl |rfl |rfl |rfl |rfl |rfl
 ·obtain⟨a,C,N,e,k5⟩:=draw L z B 2 (by decide) (by decide);obtain⟨b,D,hb,j,R⟩:=draw L z e 2 (by decide) (by decide);obtain⟨d,Z,hd,G,k7⟩:=draw L z j 2 (by decide) (by decide);have ar:=bKI c h (f:Int) (p:Int) (a:Int) (b:Int) ((d:Int)==0);refine⟨(jI c (f:Int) (p:Int) (a:Int) (b:Int) ((d:Int)==0)).1,Z,pS.ins _ _ _ _ _ _,G,?_⟩;generalize jI c (f:Int) (p:Int) (a:Int) (b:Int) ((d:Int)==0)=r at *;rcases Y with rfl |rfl
  all_goals
   refine cX pQ (ob0:= [oT L J]) Tryz.func184 rfl rfl rfl ?_;exact Wo
 ·obtain⟨M,C,ak,e,k5⟩:=draw L z B 40 (by decide) (by decide);obtain⟨n,D,hn,j,R⟩:=draw L z e 20 (by decide) (by decide);obtain⟨s,Z,hs,G,ax⟩:=bT5 L z j (1+n) (by omega);have az:=bT7 c h f O (M:Int) (s.size:Int) (by omega) (by omega);have af:=pS.rdy c f (aC6 c f (M:Int) (s.size:Int)) (aC6 c f (M:Int) (s.size:Int)).length;obtain⟨r1,r2⟩:=aC5 h f (aC6 c f (M:Int) (s.size:Int)) (aC6 c f (M:Int) (s.size:Int)).length
  generalize aDN c f (aC6 c f (M:Int) (s.size:Int)) (aC6 c f (M:Int) (s.size:Int)).length=d at *;have a0:=bHS d r1 (f:Int) (M:Int) s (by omega);refine⟨(aAC d (f:Int) (M:Int) s).1,Z,pS.trans af (pS.wrt _ _ _ _),G,?_⟩;generalize aAC d (f:Int) (M:Int) s=r at *;rcases Y with rfl |rfl |rfl
  all_goals
   refine cX pQ (ob0:= [oT L J]) Tryz.func184 rfl rfl rfl ?_;exact Wo
 ·obtain⟨r,C,e,K,F⟩:=aJX c h L z B;rcases K with rfl | ⟨m,u,rfl,T,W⟩
  ·refine⟨c,C,.refl c,e,?_⟩;refine cX pQ (ob0:= [oT L J]) Tryz.func184 rfl rfl rfl ?_;exact Wo
  have H:=h.nr;obtain⟨x1,x2,x3,x4,x5,x6,aa⟩:=bJU c h ((m+1:Nat):Int);refine⟨(bgG c ((m+1:Nat):Int)).1,C,pS.bg _ _,e,?_⟩;generalize bgG c ((m+1:Nat):Int)=r at *;unfold aRL at aa;refine cX pQ (ob0:= [oT L J]) Tryz.func184 rfl rfl rfl ?_;exact Wo
 ·obtain⟨r,C,e,K,F⟩:=aJX c h L z B;rcases K with rfl | ⟨m,u,rfl,T,W⟩
  ·refine⟨c,C,.refl c,e,?_⟩;refine cX pQ (ob0:= [oT L J]) Tryz.func184 rfl rfl rfl ?_;exact Wo
  have H:=h.nr;obtain⟨a,D,N,j,R⟩:=draw L z e 3 (by decide) (by decide);have N:a=0\/a=1\/a=2:=by omega
  rcases N with rfl |rfl |rfl
  ·have Q:=aR8 c h ((m+1:Nat):Int) 0;refine⟨(enG c ((m+1:Nat):Int) 0).1,D,pS.en _ _ _,j,?_⟩;generalize enG c ((m+1:Nat):Int) 0=r at *;refine cX pQ (ob0:= [oT L J]) Tryz.func184 rfl rfl rfl ?_;exact Wo
  ·have Q:=aR8 c h ((m+1:Nat):Int) 0;refine⟨(enG c ((m+1:Nat):Int) 0).1,D,pS.en _ _ _,j,?_⟩;generalize enG c ((m+1:Nat):Int) 0=r at *;refine cX pQ (ob0:= [oT L J]) Tryz.func184 rfl rfl rfl ?_;exact Wo
  ·have Q:=aR8 c h ((m+1:Nat):Int) 10;refine⟨(enG c ((m+1:Nat):Int) 10).1,D,pS.en _ _ _,j,?_⟩;generalize enG c ((m+1:Nat):Int) 10=r at *;refine cX pQ (ob0:= [oT L J]) Tryz.func184 rfl rfl rfl ?_;exact Wo
 ·obtain⟨r,C,e,K,F⟩:=aJX c h L z B;rcases K with rfl | ⟨m,u,rfl,T,W⟩
  ·refine⟨c,C,.refl c,e,?_⟩;refine cX pQ (ob0:= [oT L J]) Tryz.func184 rfl rfl rfl ?_;exact Wo
  have H:=h.nr;obtain⟨a,D,N,j,R⟩:=draw L z e 3 (by decide) (by decide);have aw:=bAF c h ((m+1:Nat):Int) ((1+a:Nat):Int);refine⟨(rbG c ((m+1:Nat):Int) ((1+a:Nat):Int)).1,D,pS.rb _ _ _,j,?_⟩;generalize rbG c ((m+1:Nat):Int) ((1+a:Nat):Int)=r at *;refine cX pQ (ob0:= [oT L J]) Tryz.func184 rfl rfl rfl ?_;exact Wo
 ·obtain⟨r,C,e,K,F⟩:=aJX c h L z B;rcases K with rfl | ⟨m,u,rfl,T,W⟩
  ·refine⟨c,C,.refl c,e,?_⟩;refine cX pQ (ob0:= [oT L J]) Tryz.func184 rfl rfl rfl ?_;exact Wo
  have H:=h.nr;have hu:=h.use m u T W;have aj:=qA T W;have al:=hu.file;have am:=hu.page;obtain⟨a,D,N,j,R⟩:=draw L z e 4 (by decide) (by decide);have ai:=bGW u.file u.page (by omega) (by omega);have ay:=bAG c h ((m+1:Nat):Int) (tU u.file u.page) (decide ((0:Int)< (a:Int)));refine⟨(reG c ((m+1:Nat):Int) (tU u.file u.page) (decide ((0:Int)< (a:Int)))).1,D,pS.re _ _ _ _,j,?_⟩;generalize reG c ((m+1:Nat):Int) (tU u.file u.page) (decide ((0:Int)< (a:Int)))=r at *
  refine cX pQ (ob0:= [oT L J]) Tryz.func184 rfl rfl rfl ?_;exact Wo
 ·obtain⟨r,C,e,K,F⟩:=aJX c h L z B;rcases K with rfl | ⟨m,u,rfl,T,W⟩
  ·refine⟨c,C,.refl c,e,?_⟩;refine cX pQ (ob0:= [oT L J]) Tryz.func184 rfl rfl rfl ?_;exact Wo
  have H:=h.nr;have au:=bAE c h ((m+1:Nat):Int);refine⟨(evG c ((m+1:Nat):Int)).1,C,pS.ev _ _,e,?_⟩;generalize evG c ((m+1:Nat):Int)=r at *;refine cX pQ (ob0:= [oT L J]) Tryz.func184 rfl rfl rfl ?_;exact Wo
 ·obtain⟨r,C,e,K,F⟩:=aJX c h L z B;rcases K with rfl | ⟨m,u,rfl,T,W⟩
  ·refine⟨c,C,.refl c,e,?_⟩;refine cX pQ (ob0:= [oT L J]) Tryz.func184 rfl rfl rfl ?_;exact Wo
  have H:=h.nr;obtain⟨a,D,N,j,R⟩:=draw L z e 3 (by decide) (by decide);have av:=bQU c h ((m+1:Nat):Int) ((a:Int)-1);refine⟨(aF9 c ((m+1:Nat):Int) ((a:Int)-1)).1,D,pS.hol _ _ _,j,?_⟩;generalize aF9 c ((m+1:Nat):Int) ((a:Int)-1)=r at *;refine cX pQ (ob0:= [oT L J]) Tryz.func184 rfl rfl rfl ?_;exact Wo
 ·obtain⟨a,C,N,e,k5⟩:=draw L z B 40 (by decide) (by decide);obtain⟨b,D,hb,j,R⟩:=draw L z e 3 (by decide) (by decide);have ah:=aAA O;have hs:=(h.file f O).size;obtain⟨k0,ao,ap,aq,ag,-⟩:=Df.cells (h.file f O).E;rw [ag] at ah;have hb:b=0\/b=1\/b=2:=by omega
  rcases hb with rfl |rfl |rfl
  ·have ab:=bKJ c h (f:Int) (o:Int);refine⟨(uY c (f:Int) (o:Int)).1,D,pS.trn _ _ _,j,?_⟩;generalize uY c (f:Int) (o:Int)=r at *;refine cX pQ (ob0:= [oT L J]) Tryz.func184 rfl rfl rfl ?_;exact Wo
  ·have ab:=bKJ c h (f:Int) (a:Int);refine⟨(uY c (f:Int) (a:Int)).1,D,pS.trn _ _ _,j,?_⟩;generalize uY c (f:Int) (a:Int)=r at *;refine cX pQ (ob0:= [oT L J]) Tryz.func184 rfl rfl rfl ?_;exact Wo
  ·have ab:=bKJ c h (f:Int) ((c.fl.getD f aZ).size:Int);refine⟨(uY c (f:Int) ((c.fl.getD f aZ).size:Int)).1,D,pS.trn _ _ _,j,?_⟩;generalize uY c (f:Int) ((c.fl.getD f aZ).size:Int)=r at *;refine cX pQ (ob0:= [oT L J]) Tryz.func184 rfl rfl rfl ?_;exact Wo
 ·obtain⟨a,C,N,e,k5⟩:=draw L z B 40 (by decide) (by decide);obtain⟨b,D,hb,j,R⟩:=draw L z e 40 (by decide) (by decide);have a1:=bTA c h (f:Int) (a:Int) (b:Int);refine⟨(aDM c (f:Int) (a:Int) (b:Int)).1,D,pS.pun _ _ _ _,j,?_⟩;generalize aDM c (f:Int) (a:Int) (b:Int)=r at *;refine cX pQ (ob0:= [oT L J]) Tryz.func184 rfl rfl rfl ?_;exact Wo
 ·obtain⟨a,C,N,e,k5⟩:=draw L z B 2 (by decide) (by decide);obtain⟨b,D,hb,j,R⟩:=draw L z e 6 (by decide) (by decide);obtain⟨d,Z,hd,G,k7⟩:=draw L z j 2 (by decide) (by decide);have a2:=bTC c h (a:Int) (b:Int) (f:Int) (p:Int) ((d:Int)==0);refine⟨(aCY c (a:Int) (b:Int) (f:Int) (p:Int) ((d:Int)==0)).1,Z,pS.ent _ _ _ _ _ _,G,?_⟩;generalize aCY c (a:Int) (b:Int) (f:Int) (p:Int) ((d:Int)==0)=r at *;refine cX pQ (ob0:= [oT L J]) Tryz.func184 rfl rfl rfl ?_;exact Wo
theorem bTF(L:List Int)(J:Nat):aM Tryz.prog 74 [] [.rp 2 [.lst 1 false (aB L),.int .i64 (J:Int)] 0] (.bool (decide ((L.length:Int)<=(J:Int)))) []:=by have e:(aB L).length=L.length:=aA L;refine aE (ob0:= []) [] Tryz.func74 rfl rfl rfl rfl ?_;exact kK
def eE:dJ:=λ_=>(0,0)
theorem bGB:bI eE/\Sup eE:=by
 refine⟨?_,λ_ _=>rfl⟩;constructor
 ·intro i;show 0<8;omega
 ·intro i h;rfl
def c0(z:List Zn)(g:List Gr):Dc:=⟨[⟨0,0,eE,0,0,0,0⟩,⟨0,1,eE,0,0,0,0⟩,⟨1,2,eE,0,0,0,0⟩],zA (szF z).toNat none,z,g,zA g.length l0,zA g.length 0,[]⟩
theorem ChZ.in_:∀ {l:List Zn} {f:Int},ChZ f l->∀z∈l,∀x∈z.free,f<=x/\x<f+mC pL l
 |z::r,f,h,w,hw,x,hx=>by
  have e:mC pL (z::r)=z.size+mC pL r:=rfl;have hz:=h.1.size;have hr:0<=mC pL r:=sumZ_pos h.2;rcases List.mem_cons.1 hw with rfl |hw
  ·have :=h.1.free.inn x hx;rw [e];omega
  ·have :=ChZ.in_ h.2 w hw x hx;rw [e];omega
where
 sumZ_pos:∀ {l:List Zn} {f:Int},ChZ f l->0<=mC pL l
 | [],_,_=>Int.le_refl 0
 |z::r,f,h=>by have e:mC pL (z::r)=z.size+mC pL r:=rfl;have :=h.1.size;have :=sumZ_pos h.2;rw [e];omega
theorem aSF {z:List Zn} {g:List Gr} (F:aV3 z)(hg:mY g=true):Ok (c0 z g):=by
 have D:=lD hg;obtain⟨N,O⟩:=F.num;have B:∀n,(c0 z g).fr.getD n none=none:=λn=>by show(zA _ none).getD n none=none;rw [zD,zF];split <;> rfl
 have j:∀f,f<3->(c0 z g).fl.getD f aZ=⟨(c0 z g).fl.getD f aZ |>.dev,(c0 z g).fl.getD f aZ |>.slot,eE,0,0,0,0⟩:=λf C=>by
  have :f=0\/f=1\/f=2:=by omega
  rcases this with rfl |rfl |rfl <;> rfl
 have m:∀t,(c0 z g).ls.getD t l0=l0:=λt=>by show(zA _ l0).getD t l0=l0;rw [zD,zF];split <;> rfl
 refine⟨Nat.le_refl 3,by show(zA _ none).length<=64;rw [zC];omega,D.2,by show(zA _ l0).length=g.length;rw [zC],by show(zA _ (0:Int)).length=g.length;rw [zC],λf C=>?_,λn u M G=>?_,λf p C E=>?_,F.chk,λw K x e=>?_,hg,λt J=>?_,λt x J e=>?_,λt=>?_,rfl⟩
 ·rw [j f C];exact⟨bGB.1,bGB.2,λp=>by show(-1000001:Int)<=0;omega,Nat.zero_le _,by show 0<256;omega,by show(0:Int)<=0/\(0:Int)<=1000000;omega,Iff.rfl⟩
 ·rw [B] at G;cases G
 ·rw [j f C] at E;have E:(0:Int)<0:=E;omega
 ·have H:=((eR z).1 F.chk).1;have :=H.in_ w K x e;refine⟨(x-1).toNat,?_,by omega,B _⟩;show _< (zA _ none).length;rw [zC];unfold szF;omega
 ·rw [m];decide
 ·rw [m] at e;rcases e with e |e <;> cases e
 ·show 0<=(zA g.length (0:Int)).getD t 0/\(zA g.length (0:Int)).getD t 0<=1000000;have :(zA g.length (0:Int)).getD t 0=0:=by rw [zD,zF];split <;> rfl
  rw [this];omega
theorem bNI(z:List Zn)(g:List Gr):LeV (aP7 [(0,0),(0,1),(1,2)] z g) (.agg (c0 z g).c):=by
 unfold aP7 c0 Dc.c;refine .aggs (.cons (.refl _) (.cons ?_ (.cons (.refl _) (.cons (.refl _) (.cons ?_ (.cons ?_ (.cons .nils .nil)))))))
 ·show LeV (.lst 9 false (sX (zA (szF z).toNat fre))) (.lst 9 false (aO (zA (szF z).toNat none)));unfold sX aO;rw [zE,zE];exact .refl _
 ·show LeV (.lst 3 false (zA g.length [bL,bL,bL])) (.lst 3 false ((zA g.length l0).map Ls.c));rw [show zA g.length [bL,bL,bL]=(zA g.length l0).map λ_=> [bL,bL,bL] by rw [zE]];refine .rows (λh=>h) λx e=>?_;obtain rfl:=List.eq_of_mem_replicate e;exact .cons .nils (.cons .nils (.cons .nils .nil))
 ·show LeV (.lst 1 false (zA g.length [.int .i64 0])) (.lst 1 false (aB (zA g.length 0)));rw [aB,zE];exact .refl _
theorem aY6 {a b p q:Nat} (j:a<12)(m:b<12)(z:p<4)(B:q<4):
 mY [⟨((4+a:Nat):Int),(p:Int),0⟩,⟨((4+b:Nat):Int),(q:Int),0⟩]=true/\aNF [⟨((4+a:Nat):Int),(p:Int),0⟩,⟨((4+b:Nat):Int),(q:Int),0⟩]=true:=by
 have e:∀a:Fin 12,∀p:Fin 4,aIR ⟨((4+a.val:Nat):Int),(p.val:Int),0⟩=false:=by decide
 have f:=e ⟨a,j⟩ ⟨p,z⟩;have h2:=e ⟨b,m⟩ ⟨q,B⟩;dsimp only at f h2;refine⟨?_,rfl⟩;show(((true&& !aIR ⟨((4+a:Nat):Int),(p:Int),0⟩)&& !aIR ⟨((4+b:Nat):Int),(q:Int),0⟩)&&(decide ((1:Int)<=2)&&decide ((2:Int)<=4)))=true;rw [f,h2];rfl
theorem aY7 {x y:Nat} (f:x<6)(j:y<6):(newF [((2+x:Nat):Int),((2+y:Nat):Int)]).2=0/\(newF [((2+x:Nat):Int),((2+y:Nat):Int)]).1.length=2/\4<=szF (newF [((2+x:Nat):Int),((2+y:Nat):Int)]).1:=by
 have e:∀x y:Fin 6,(newF [((2+x.val:Nat):Int),((2+y.val:Nat):Int)]).2=0/\(newF [((2+x.val:Nat):Int),((2+y.val:Nat):Int)]).1.length=2/\4<=szF (newF [((2+x.val:Nat):Int),((2+y.val:Nat):Int)]).1:=by decide +kernel
 exact e ⟨x,f⟩ ⟨y,j⟩
theorem bNH {a b p q x y:Nat} (B:a<12)(C:b<12)(D:p<4)(E:q<4)(F:x<6)(G:y<6):∃c:Dc,(∃z g,c=c0 z g/\aV3 z/\mY g=true/\g.length=2/\z.length=2/\4<=szF z/\aNF g=true)/\
 aM Tryz.prog 29 [] [.lst 2 false (rH [(0,0),(0,1),(1,2)]),.lst 1 false (aB [((2+x:Nat):Int),((2+y:Nat):Int)]),.lst 3 false (aQ [⟨((4+a:Nat):Int),(p:Int),0⟩,⟨((4+b:Nat):Int),(q:Int),0⟩])] (.tup [.agg c.c,.int .i64 0]) []:=by
 obtain⟨f,j⟩:=aY6 B C D E;obtain⟨m,H,J⟩:=aY7 F G;refine⟨_,⟨_,_,rfl,aHL m,f,rfl,H,J,j⟩,?_⟩;have k:=bHX [(0,0),(0,1),(1,2)] false [((2+x:Nat):Int),((2+y:Nat):Int)] false [⟨((4+a:Nat):Int),(p:Int),0⟩,⟨((4+b:Nat):Int),(q:Int),0⟩] false (by decide) (by show 2<=100000;omega) (by show 2<=100000;omega)
 have e:aP8 [(0,0),(0,1),(1,2)] [((2+x:Nat):Int),((2+y:Nat):Int)] [⟨((4+a:Nat):Int),(p:Int),0⟩,⟨((4+b:Nat):Int),(q:Int),0⟩]=(aP7 [(0,0),(0,1),(1,2)] (newF [((2+x:Nat):Int),((2+y:Nat):Int)]).1 [⟨((4+a:Nat):Int),(p:Int),0⟩,⟨((4+b:Nat):Int),(q:Int),0⟩],0):=by unfold aP8;rw [f,j,m,show aDA [(0,0),(0,1),(1,2)]=true from by decide];rfl
 rw [e] at k;exact k.le (nD.refl _) (.tups (.cons (bNI _ _) (.cons (.refl _) .nil))) (pP.refl _)
open Classical in
noncomputable def stp(L:List Int)(p:Dc×Nat):Dc×Nat:= if h:(L.length:Int)<2^62/\Ok p.1/\p.1.fl.length=3/\p.2<=L.length then(Classical.choose (aMK L h.1 p.1 h.2.1 h.2.2.1 h.2.2.2),Classical.choose (Classical.choose_spec (aMK L h.1 p.1 h.2.1 h.2.2.1 h.2.2.2))) else p
theorem bBC(L:List Int)(j:(L.length:Int)<2^62)(p:Dc×Nat)(e:Ok p.1)(h2:p.1.fl.length=3)(f:p.2<=L.length):
 pS p.1 (stp L p).1/\(stp L p).2<=L.length/\aM Tryz.prog 184 [oT L p.2] [.ptr 0 0 0,.agg p.1.c] (.agg (stp L p).1.c) [oT L (stp L p).2]:=by
 unfold stp;rw [dif_pos ⟨j,e,h2,f⟩];exact Classical.choose_spec (Classical.choose_spec (aMK L j p.1 e h2 f))
noncomputable def aIC(L:List Int):Nat->Dc×Nat->Dc×Nat
 |0,p=>p
 |n+1,p=>bif decide ((L.length:Int)<=(p.2:Int)) then p else aIC L n (stp L p)
theorem aU9(L:List Int)(j:(L.length:Int)<2^62):∀(n:Nat) (p:Dc×Nat),Ok p.1->p.1.fl.length=3->p.2<=L.length->pS p.1 (aIC L n p).1/\(aIC L n p).2<=L.length
 |0,p,_,_,e=>⟨.refl _,e⟩
 |n+1,p,f,h2,e=>by
  rw [aIC]
  cases decide ((L.length:Int)<=(p.2:Int)) with
  |true=>exact⟨.refl _,e⟩
  |false=> obtain⟨m,E,F⟩:=bBC L j p f h2 e;obtain⟨z,B⟩:=m.sh f;obtain⟨C,D⟩:=aU9 L j n (stp L p) z (by rw [B.fl];exact h2) E;exact⟨.trans m C,D⟩
def Drw(c:Dc):Prop:=∃z g,aV3 z/\mY g=true/\g.length=2/\z.length=2/\4<=szF z/\aNF g=true/\pS (c0 z g) c
noncomputable def R81:Rsv Tryz.prog Tryz.f81 [.s 31] 1:=⟨_,_,rfl,rfl⟩
theorem bTG(L:List Int)(f:(L.length:Int)<2^62) {J:Nat} (hJ:J<=L.length):
 ∃(c:Dc) (J':Nat),Drw c/\J'<=L.length/\aM Tryz.prog 81 [oT L J] [.ptr 0 0 0] (.agg c.c) [oT L J']:=by
 obtain⟨a,J1,ha,K,k1⟩:=draw L f hJ 12 (by decide) (by decide);obtain⟨p,J2,hp,M,k2⟩:=draw L f K 4 (by decide) (by decide);obtain⟨b,J3,hb,N,k3⟩:=draw L f M 12 (by decide) (by decide);obtain⟨q,J4,hq,O,k4⟩:=draw L f N 4 (by decide) (by decide);obtain⟨x,J5,hx,Q,k5⟩:=draw L f O 6 (by decide) (by decide);obtain⟨y,J6,hy,T,k6⟩:=draw L f Q 6 (by decide) (by decide);obtain⟨n,B,hn,C,k7⟩:=draw L f T 40 (by decide) (by decide)
 obtain⟨c,⟨z,g,G,hz,hg,W,Z,Y,E⟩,aa⟩:=bNH (a:=a) (b:=b) (p:=p) (q:=q) (x:=x) (y:=y) (by omega) (by omega) (by omega) (by omega) (by omega) (by omega);have F:Ok c:=by rw [G];exact aSF hz hg
 have D:c.fl.length=3:=by rw [G];rfl
 obtain⟨r1,r2⟩:=aU9 L f (4+n) (c,B) F D C;refine⟨(aIC L (4+n) (c,B)).1,(aIC L (4+n) (c,B)).2,⟨z,g,hz,hg,W,Z,Y,E,by rw [<-G];exact r1⟩,r2,?_⟩;generalize hR:aIC L (4+n) (c,B)=R at *;clear r1 r2 G E;refine cX R81 (ob0:= [oT L J]) Tryz.func81 rfl rfl rfl ?_;refine Wy ?_
 refine⟨Unit,λ_=>True,λ_=>⟨[(0,⟨[],true,.ptr 0 0 0⟩),(2,⟨[],true,.ptr 1 0 0⟩),(3,⟨[],true,.lst 3 false (aQ [⟨((4+a:Nat):Int),(p:Int),0⟩,⟨((4+b:Nat):Int),(q:Int),0⟩])⟩),(24,⟨[],true,.lst 2 false (rH [(0,0),(0,1),(1,2)])⟩),(31,⟨[],true,.lst 1 false (aB [((2+x:Nat):Int),((2+y:Nat):Int)])⟩)],[(0,oT L J6),(1,.box [bL,bL,bL,bL,bL,bL,bL])],2⟩,?_,λ_ _=>?_⟩
 ·rw [<-aBY];refine Wy ?_;refine⟨(),trivial,?_⟩;exact Vr [some 0,some 1]
 clear k1 k2 k3 k4 k5 k6;refine Wy ?_;refine Lp (α:=Nat×(Dc×Nat)) (λp=>(Ok p.2.1/\p.2.1.fl.length=3)/\p.2.2<=L.length/\aIC L p.1 p.2=R/\p.1<=100) (λp=> [(6,.int .i64 (p.1:Int))]) (λp=> [(0,oT L p.2.2),(2,.box p.2.1.c)]) (λp=>p.1) (4+n,(c,B)) ⟨⟨F,D⟩,C,hR,by show 4+n<=100;omega⟩ ?_ ?_
 ·exact Vr [_,_,_]
 rintro ⟨i,d,J⟩ ⟨⟨i1,i2⟩,i3,m,i5⟩;dsimp only at i1 i2 i3 m i5;clear k7 aa
 cases i with
 |zero=> subst m;rw [show aIC L 0 (d,J)=(d,J) from rfl];exact Wo
 |succ i=>
  have j:=bTF L J
  by_cases e:(L.length:Int)<=(J:Int)
  ·rw [zdt e] at j;rw [aIC,zdt e,zct] at m;subst m;refine Wy ?_;refine .inl ⟨_,λ_=>⟨λv H=>?_,j⟩,.inr rfl,?_⟩
   ·obtain rfl:=List.mem_singleton.1 H;exact⟨rfl,rfl⟩
   exact Wo
  ·rw [zdf e] at j;rw [aIC,zdf e,zcf] at m;obtain⟨s1,s2,s3⟩:=bBC L f (d,J) i1 i2 i3;obtain⟨o1,o2⟩:=s1.sh i1;generalize stp L (d,J)=st at *;dsimp only at *;refine Wy ?_;refine .inl ⟨_,λ_=>⟨λv H=>?_,j⟩,.inr rfl,?_⟩
   ·obtain rfl:=List.mem_singleton.1 H;exact⟨rfl,rfl⟩
   refine Wy ?_;refine Le (i,st) (hI:=⟨⟨o1,by rw [o2.fl];exact i2⟩,s2,m,by omega⟩) (hv:=?_);exact Vr [_,_,_]
theorem Drw.ok {c:Dc} (h:Drw c):Ok c/\c.fl.length=3/\c.gr.length=2/\c.zo.length=2/\4<=c.fr.length:=by obtain⟨z,g,D,hg,f,j,C,m,B⟩:=h;obtain⟨E,e⟩:=B.sh (aSF D hg);refine⟨E,e.fl,e.gr.trans f,e.zo.trans j,?_⟩;rw [e.fr];show 4<=(zA (szF z).toNat none).length;rw [zC];omega
end Go.Proofs.YtmhapcbjjpadnaaGreat
