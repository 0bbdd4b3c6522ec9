/- Caches. -/
import Derived.Test.YtmhapcbjjpadnaaGreatXS5b
import Derived.Test.YtmhapcbjjpadnaaGreatK8b
import Derived.Test.YtmhapcbjjpadnaaGreatG8b
set_option linter.all false
set_option maxHeartbeats 16000000
set_option maxRecDepth 40000
open List renaming replicate→zA,length_replicate→zC,getD_eq_getElem?_getD→zD,map_replicate→zE,getElem?_replicate→zF
open Nat renaming le_of_ble_eq_true→zG
namespace Go.Proofs.YtmhapcbjjpadnaaGreat
open Go Go.Sk Go.RowKit
inductive oP:Dc->Dc->Prop
 |refl (c:Dc):oP c c
 |trans {a b c:Dc} (h:oP a b) (k:oP b c):oP a c
 |ins (c:Dc) (f p t pf:Int) (ur:Bool):oP c (iZ c f p t pf ur).1
 |rdy (c:Dc) (f:Nat) (ps:List Int) (k:Nat):oP c (aA0 c f ps k)
 |wrt (c:Dc) (f off:Int) (s:ByteArray):oP c (aBL c f off s).1
 |bg (c:Dc) (n:Int):oP c (bgG c n).1
 |en (c:Dc) (n e:Int):oP c (enG c n e).1
 |rb (c:Dc) (n k:Int):oP c (rbG c n k).1
 |re (c:Dc) (n:Int) (d:ByteArray) (ok:Bool):oP c (reG c n d ok).1
 |ev (c:Dc) (n:Int):oP c (evG c n).1
 |hol (c:Dc) (n k:Int):oP c (aCM c n k).1
 |trn (c:Dc) (f z:Int):oP c (rG c f z).1
 |pun (c:Dc) (f off n:Int):oP c (vZ c f off n).1
 |ent (c:Dc) (pr pg f a:Int) (w:Bool):oP c (aAM c pr pg f a w).1
theorem oP.sh {c d:Dc} (k:oP c d):Ok c->Ok d/\Sh c d:=by
 induction k with
 |refl c=>exact λh=>⟨h,Sh.refl c⟩
 |trans h k ih ik=>exact λo=>⟨(ik (ih o).1).1,(ih o).2.trans (ik (ih o).1).2⟩
 |ins c f p t pf ur=>exact λh=>⟨aD2 h _ _ _ _ _,Sh.iZ _ _ _ _ _ _⟩
 |rdy c f ps k=>exact λh=>tK h _ _ _
 |wrt c f off s=>exact λh=>⟨aQM h _ _ _,Sh.writ _ _ _ _⟩
 |bg c n=>exact λh=>⟨bCW h _,Sh.bg _ _⟩
 |en c n e=>exact λh=>⟨bD4 h _ _,Sh.en _ _ _⟩
 |rb c n k=>exact λh=>⟨aEX h _ _,Sh.rb _ _ _⟩
 |re c n d ok=>exact λh=>⟨aVZ h _ _ _,Sh.re _ _ _ _⟩
 |ev c n=>exact λh=>⟨bD9 h _,Sh.ev _ _⟩
 |hol c n k=>exact λh=>⟨aYD h _ _,Sh.hol _ _ _⟩
 |trn c f z=>exact λh=>⟨aQE h _ _,Sh.trn _ _ _⟩
 |pun c f off n=>exact λh=>⟨aPJ h _ _ _,Sh.pun _ _ _ _⟩
 |ent c pr pg f a w=>exact λh=>⟨aY0 h _ _ _ _ _,Sh.ent _ _ _ _ _ _⟩
noncomputable def oA:Rsv Tryz.prog Tryz.f184 [] 2:=⟨_,_,rfl,rfl⟩
theorem aIV(L:List Int)(hL:(L.length:Int)<2^62)(c:Dc)(h:Ok c)(h3:c.fl.length=3) {J:Nat} (hJ:J<=L.length):
 ∃(c':Dc) (J':Nat),oP c c'/\J'<=L.length/\aM Tryz.prog 184 [lC L J] [.ptr 0 0 0,.agg c.c] (.agg c'.c) [lC L J']:=by
 obtain⟨f,J1,hf,hJ1,k1⟩:=draw L hL hJ 3 (by decide) (by decide)
 obtain⟨p,J2,hp,hJ2,k2⟩:=draw L hL hJ1 8 (by decide) (by decide)
 obtain⟨o,J3,ho,hJ3,k3⟩:=draw L hL hJ2 128 (by decide) (by decide)
 obtain⟨v,J4,hv,hJ4,k4⟩:=draw L hL hJ3 14 (by decide) (by decide)
 have hff:f<c.fl.length:=by omega
 have hv:(v=0\/v=1)\/(v=2\/v=3\/v=4)\/v=5\/v=6\/v=7\/v=8\/v=9\/v=10\/v=11\/v=12\/v=13:=by omega
 rcases hv with hv |hv |rfl |rfl |rfl |rfl |rfl |rfl |rfl |rfl |rfl
 ·obtain⟨a,J5,ha,hJ5,k5⟩:=draw L hL hJ4 2 (by decide) (by decide)
  obtain⟨b,J6,hb,hJ6,k6⟩:=draw L hL hJ5 2 (by decide) (by decide)
  obtain⟨d,J7,hd,hJ7,k7⟩:=draw L hL hJ6 2 (by decide) (by decide)
  have k30:=bIN c h (f:Int) (p:Int) (a:Int) (b:Int) ((d:Int)==0)
  refine⟨(iZ c (f:Int) (p:Int) (a:Int) (b:Int) ((d:Int)==0)).1,J7,oP.ins _ _ _ _ _ _,hJ7,?_⟩
  generalize iZ c (f:Int) (p:Int) (a:Int) (b:Int) ((d:Int)==0)=r at *
  rcases hv with rfl |rfl
  all_goals
   refine bE oA (ob0:= [lC L J]) Tryz.func184 rfl rfl rfl ?_
   exact Wo
 ·obtain⟨o2,J5,ho2,hJ5,k5⟩:=draw L hL hJ4 40 (by decide) (by decide)
  obtain⟨n,J6,hn,hJ6,k6⟩:=draw L hL hJ5 20 (by decide) (by decide)
  obtain⟨s,J7,hs,hJ7,k48⟩:=bJJ L hL hJ6 (1+n) (by omega)
  have k51:=bJL c h f hff (o2:Int) (s.size:Int) (by omega) (by omega)
  have hdd:=oP.rdy c f (pQ c f (o2:Int) (s.size:Int)) (pQ c f (o2:Int) (s.size:Int)).length
  obtain⟨r1,r2⟩:=tK h f (pQ c f (o2:Int) (s.size:Int)) (pQ c f (o2:Int) (s.size:Int)).length
  generalize aA0 c f (pQ c f (o2:Int) (s.size:Int)) (pQ c f (o2:Int) (s.size:Int)).length=d at *
  have k57:=bCA d r1 (f:Int) (o2:Int) s (by omega)
  refine⟨(aBL d (f:Int) (o2:Int) s).1,J7,oP.trans hdd (oP.wrt _ _ _ _),hJ7,?_⟩
  generalize aBL d (f:Int) (o2:Int) s=r at *
  rcases hv with rfl |rfl |rfl
  all_goals
   refine bE oA (ob0:= [lC L J]) Tryz.func184 rfl rfl rfl ?_
   exact Wo
 ·obtain⟨r,J5,hJ5,hr,k281⟩:=aGM c h L hL hJ4
  rcases hr with rfl | ⟨m,u,rfl,m1,m2⟩
  ·refine⟨c,J5,.refl c,hJ5,?_⟩
   refine bE oA (ob0:= [lC L J]) Tryz.func184 rfl rfl rfl ?_
   exact Wo
  have hnr:=h.nr
  obtain⟨x1,x2,x3,x4,x5,x6,k178⟩:=bE9 c h ((m+1:Nat):Int)
  refine⟨(bgG c ((m+1:Nat):Int)).1,J5,oP.bg _ _,hJ5,?_⟩
  generalize bgG c ((m+1:Nat):Int)=r at *
  unfold aNT at k178
  refine bE oA (ob0:= [lC L J]) Tryz.func184 rfl rfl rfl ?_
  exact Wo
 ·obtain⟨r,J5,hJ5,hr,k281⟩:=aGM c h L hL hJ4
  rcases hr with rfl | ⟨m,u,rfl,m1,m2⟩
  ·refine⟨c,J5,.refl c,hJ5,?_⟩
   refine bE oA (ob0:= [lC L J]) Tryz.func184 rfl rfl rfl ?_
   exact Wo
  have hnr:=h.nr
  obtain⟨a,J6,ha,hJ6,k6⟩:=draw L hL hJ5 3 (by decide) (by decide)
  have ha:a=0\/a=1\/a=2:=by omega
  rcases ha with rfl |rfl |rfl
  ·have k177:=aNH c h ((m+1:Nat):Int) 0
   refine⟨(enG c ((m+1:Nat):Int) 0).1,J6,oP.en _ _ _,hJ6,?_⟩
   generalize enG c ((m+1:Nat):Int) 0=r at *
   refine bE oA (ob0:= [lC L J]) Tryz.func184 rfl rfl rfl ?_
   exact Wo
  ·have k177:=aNH c h ((m+1:Nat):Int) 0
   refine⟨(enG c ((m+1:Nat):Int) 0).1,J6,oP.en _ _ _,hJ6,?_⟩
   generalize enG c ((m+1:Nat):Int) 0=r at *
   refine bE oA (ob0:= [lC L J]) Tryz.func184 rfl rfl rfl ?_
   exact Wo
  ·have k177:=aNH c h ((m+1:Nat):Int) 10
   refine⟨(enG c ((m+1:Nat):Int) 10).1,J6,oP.en _ _ _,hJ6,?_⟩
   generalize enG c ((m+1:Nat):Int) 10=r at *
   refine bE oA (ob0:= [lC L J]) Tryz.func184 rfl rfl rfl ?_
   exact Wo
 ·obtain⟨r,J5,hJ5,hr,k281⟩:=aGM c h L hL hJ4
  rcases hr with rfl | ⟨m,u,rfl,m1,m2⟩
  ·refine⟨c,J5,.refl c,hJ5,?_⟩
   refine bE oA (ob0:= [lC L J]) Tryz.func184 rfl rfl rfl ?_
   exact Wo
  have hnr:=h.nr
  obtain⟨a,J6,ha,hJ6,k6⟩:=draw L hL hJ5 3 (by decide) (by decide)
  have k47:=aVE c h ((m+1:Nat):Int) ((1+a:Nat):Int)
  refine⟨(rbG c ((m+1:Nat):Int) ((1+a:Nat):Int)).1,J6,oP.rb _ _ _,hJ6,?_⟩
  generalize rbG c ((m+1:Nat):Int) ((1+a:Nat):Int)=r at *
  refine bE oA (ob0:= [lC L J]) Tryz.func184 rfl rfl rfl ?_
  exact Wo
 ·obtain⟨r,J5,hJ5,hr,k281⟩:=aGM c h L hL hJ4
  rcases hr with rfl | ⟨m,u,rfl,m1,m2⟩
  ·refine⟨c,J5,.refl c,hJ5,?_⟩
   refine bE oA (ob0:= [lC L J]) Tryz.func184 rfl rfl rfl ?_
   exact Wo
  have hnr:=h.nr
  have hu:=h.use m u m1 m2
  have hgu:=jB m1 m2
  have huf:=hu.file
  have hup:=hu.page
  obtain⟨a,J6,ha,hJ6,k6⟩:=draw L hL hJ5 4 (by decide) (by decide)
  have k160:=bB0 u.file u.page (by omega) (by omega)
  have k50:=aVF c h ((m+1:Nat):Int) (rT u.file u.page) (decide ((0:Int)< (a:Int)))
  refine⟨(reG c ((m+1:Nat):Int) (rT u.file u.page) (decide ((0:Int)< (a:Int)))).1,J6,oP.re _ _ _ _,hJ6,?_⟩
  generalize reG c ((m+1:Nat):Int) (rT u.file u.page) (decide ((0:Int)< (a:Int)))=r at *
  refine bE oA (ob0:= [lC L J]) Tryz.func184 rfl rfl rfl ?_
  exact Wo
 ·obtain⟨r,J5,hJ5,hr,k281⟩:=aGM c h L hL hJ4
  rcases hr with rfl | ⟨m,u,rfl,m1,m2⟩
  ·refine⟨c,J5,.refl c,hJ5,?_⟩
   refine bE oA (ob0:= [lC L J]) Tryz.func184 rfl rfl rfl ?_
   exact Wo
  have hnr:=h.nr
  have k43:=bJC c h ((m+1:Nat):Int)
  refine⟨(evG c ((m+1:Nat):Int)).1,J5,oP.ev _ _,hJ5,?_⟩
  generalize evG c ((m+1:Nat):Int)=r at *
  refine bE oA (ob0:= [lC L J]) Tryz.func184 rfl rfl rfl ?_
  exact Wo
 ·obtain⟨r,J5,hJ5,hr,k281⟩:=aGM c h L hL hJ4
  rcases hr with rfl | ⟨m,u,rfl,m1,m2⟩
  ·refine⟨c,J5,.refl c,hJ5,?_⟩
   refine bE oA (ob0:= [lC L J]) Tryz.func184 rfl rfl rfl ?_
   exact Wo
  have hnr:=h.nr
  obtain⟨a,J6,ha,hJ6,k6⟩:=draw L hL hJ5 3 (by decide) (by decide)
  have k45:=bJF c h ((m+1:Nat):Int) ((a:Int)-1)
  refine⟨(aCM c ((m+1:Nat):Int) ((a:Int)-1)).1,J6,oP.hol _ _ _,hJ6,?_⟩
  generalize aCM c ((m+1:Nat):Int) ((a:Int)-1)=r at *
  refine bE oA (ob0:= [lC L J]) Tryz.func184 rfl rfl rfl ?_
  exact Wo
 ·obtain⟨a,J5,ha,hJ5,k5⟩:=draw L hL hJ4 40 (by decide) (by decide)
  obtain⟨b,J6,hb,hJ6,k6⟩:=draw L hL hJ5 3 (by decide) (by decide)
  have hgf:=iS hff
  have hs:=(h.file f hff).size
  obtain⟨k0,k1',k2',k3',hfc,-⟩:=Df.cells (h.file f hff).E
  rw [hfc] at hgf
  have hb:b=0\/b=1\/b=2:=by omega
  rcases hb with rfl |rfl |rfl
  ·have k31:=aZ0 c h (f:Int) (o:Int)
   refine⟨(rG c (f:Int) (o:Int)).1,J6,oP.trn _ _ _,hJ6,?_⟩
   generalize rG c (f:Int) (o:Int)=r at *
   refine bE oA (ob0:= [lC L J]) Tryz.func184 rfl rfl rfl ?_
   exact Wo
  ·have k31:=aZ0 c h (f:Int) (a:Int)
   refine⟨(rG c (f:Int) (a:Int)).1,J6,oP.trn _ _ _,hJ6,?_⟩
   generalize rG c (f:Int) (a:Int)=r at *
   refine bE oA (ob0:= [lC L J]) Tryz.func184 rfl rfl rfl ?_
   exact Wo
  ·have k31:=aZ0 c h (f:Int) ((c.fl.getD f aP).size:Int)
   refine⟨(rG c (f:Int) ((c.fl.getD f aP).size:Int)).1,J6,oP.trn _ _ _,hJ6,?_⟩
   generalize rG c (f:Int) ((c.fl.getD f aP).size:Int)=r at *
   refine bE oA (ob0:= [lC L J]) Tryz.func184 rfl rfl rfl ?_
   exact Wo
 ·obtain⟨a,J5,ha,hJ5,k5⟩:=draw L hL hJ4 40 (by decide) (by decide)
  obtain⟨b,J6,hb,hJ6,k6⟩:=draw L hL hJ5 40 (by decide) (by decide)
  have k63:=bJT c h (f:Int) (a:Int) (b:Int)
  refine⟨(vZ c (f:Int) (a:Int) (b:Int)).1,J6,oP.pun _ _ _ _,hJ6,?_⟩
  generalize vZ c (f:Int) (a:Int) (b:Int)=r at *
  refine bE oA (ob0:= [lC L J]) Tryz.func184 rfl rfl rfl ?_
  exact Wo
 ·obtain⟨a,J5,ha,hJ5,k5⟩:=draw L hL hJ4 2 (by decide) (by decide)
  obtain⟨b,J6,hb,hJ6,k6⟩:=draw L hL hJ5 6 (by decide) (by decide)
  obtain⟨d,J7,hd,hJ7,k7⟩:=draw L hL hJ6 2 (by decide) (by decide)
  have k68:=bMO c h (a:Int) (b:Int) (f:Int) (p:Int) ((d:Int)==0)
  refine⟨(aAM c (a:Int) (b:Int) (f:Int) (p:Int) ((d:Int)==0)).1,J7,oP.ent _ _ _ _ _ _,hJ7,?_⟩
  generalize aAM c (a:Int) (b:Int) (f:Int) (p:Int) ((d:Int)==0)=r at *
  refine bE oA (ob0:= [lC L J]) Tryz.func184 rfl rfl rfl ?_
  exact Wo
end Go.Proofs.YtmhapcbjjpadnaaGreat
namespace Go.Proofs.YtmhapcbjjpadnaaGreat
open Go Go.Sk Go.RowKit
theorem bMR(L:List Int)(J:Nat):aM Tryz.prog 74 [] [.rp 2 [.lst 1 false (aE L),.int .i64 (J:Int)] 0] (.bool (decide ((L.length:Int)<=(J:Int)))) []:=by
 have hl:(aE L).length=L.length:=aA L
 refine aK (ob0:= []) [] Tryz.func74 rfl rfl rfl rfl ?_
 exact jR
def eE:cM:=λ_=>(0,0)
theorem bAH:bH eE/\rK eE:=by
 refine⟨?_,λ_ _=>rfl⟩
 constructor
 ·intro i;show 0<8;omega
 ·intro i h;rfl
def c0(z:List Zn)(g:List Gr):Dc:=⟨[⟨0,0,eE,0,0,0,0⟩,⟨0,1,eE,0,0,0,0⟩,⟨1,2,eE,0,0,0,0⟩],zA (szF z).toNat none,z,g,zA g.length l0,zA g.length 0,[]⟩
theorem tQ.in_:∀ {l:List Zn} {f:Int},tQ f l->∀z∈l,∀x∈z.free,f<=x/\x<f+jP nW l
 |z::r,f,h,w,hw,x,hx=>by
  have e:jP nW (z::r)=z.size+jP nW r:=rfl
  have hz:=h.1.size
  have hr:0<=jP nW r:=sumZ_pos h.2
  rcases List.mem_cons.1 hw with rfl |hw
  ·have :=h.1.free.inn x hx
   rw [e];omega
  ·have :=tQ.in_ h.2 w hw x hx
   rw [e];omega
where
 sumZ_pos:∀ {l:List Zn} {f:Int},tQ f l->0<=jP nW l
 | [],_,_=>Int.le_refl 0
 |z::r,f,h=>by
  have e:jP nW (z::r)=z.size+jP nW r:=rfl
  have :=h.1.size
  have :=sumZ_pos h.2
  rw [e];omega
theorem aT2 {z:List Zn} {g:List Gr} (hz:aSS z)(hg:rI g=true):Ok (c0 z g):=by
 have hgl:=qH hg
 obtain⟨n1,n2⟩:=hz.num
 have hno:∀n,(c0 z g).fr.getD n none=none:=λn=>by
  show(zA _ none).getD n none=none
  rw [zD,zF]
  split <;> rfl
 have hff:∀f,f<3->(c0 z g).fl.getD f aP=⟨(c0 z g).fl.getD f aP |>.dev,(c0 z g).fl.getD f aP |>.slot,eE,0,0,0,0⟩:=λf hf=>by
  have :f=0\/f=1\/f=2:=by omega
  rcases this with rfl |rfl |rfl <;> rfl
 have hls:∀t,(c0 z g).ls.getD t l0=l0:=λt=>by
  show(zA _ l0).getD t l0=l0
  rw [zD,zF]
  split <;> rfl
 refine⟨Nat.le_refl 3,by show(zA _ none).length<=64;rw [zC];omega,hgl.2,by show(zA _ l0).length=g.length;rw [zC],by show(zA _ (0:Int)).length=g.length;rw [zC],λf hf=>?_,λn u hn hu=>?_,λf p hf hp=>?_,hz.chk,λw hw x hx=>?_,hg,λt ht=>?_,λt x ht hx=>?_,λt=>?_,rfl⟩
 ·rw [hff f hf]
  exact⟨bAH.1,bAH.2,λp=>by show(-1000001:Int)<=0;omega,Nat.zero_le _,by show 0<256;omega,by show(0:Int)<=0/\(0:Int)<=1000000;omega,Iff.rfl⟩
 ·rw [hno] at hu;cases hu
 ·rw [hff f hf] at hp
  have hp:(0:Int)<0:=hp
  omega
 ·have hc:=((eH z).1 hz.chk).1
  have :=hc.in_ w hw x hx
  refine⟨(x-1).toNat,?_,by omega,hno _⟩
  show _< (zA _ none).length
  rw [zC]
  unfold szF
  omega
 ·rw [hls];decide
 ·rw [hls] at hx
  rcases hx with hx |hx <;> cases hx
 ·show 0<=(zA g.length (0:Int)).getD t 0/\(zA g.length (0:Int)).getD t 0<=1000000
  have :(zA g.length (0:Int)).getD t 0=0:=by
   rw [zD,zF]
   split <;> rfl
  rw [this];omega
theorem bGD(z:List Zn)(g:List Gr):uY (aVP [(0,0),(0,1),(1,2)] z g) (.agg (c0 z g).c):=by
 unfold aVP c0 Dc.c
 refine .aggs (.cons (.refl _) (.cons ?_ (.cons (.refl _) (.cons (.refl _) (.cons ?_ (.cons ?_ (.cons .nils .nil)))))))
 ·show uY (.lst 9 false (rC (zA (szF z).toNat fre))) (.lst 9 false (aV (zA (szF z).toNat none)))
  unfold rC aV
  rw [zE,zE]
  exact .refl _
 ·show uY (.lst 3 false (zA g.length [bR,bR,bR])) (.lst 3 false ((zA g.length l0).map Ls.c))
  rw [show zA g.length [bR,bR,bR]=(zA g.length l0).map λ_=> [bR,bR,bR] by rw [zE]]
  refine .rows (λh=>h) λx hx=>?_
  obtain rfl:=List.eq_of_mem_replicate hx
  exact .cons .nils (.cons .nils (.cons .nils .nil))
 ·show uY (.lst 1 false (zA g.length [.int .i64 0])) (.lst 1 false (aE (zA g.length 0)))
  rw [aE,zE]
  exact .refl _
theorem aTC {a b p q:Nat} (ha:a<12)(hb:b<12)(hp:p<4)(hq:q<4):
 rI [⟨((4+a:Nat):Int),(p:Int),0⟩,⟨((4+b:Nat):Int),(q:Int),0⟩]=true/\aMK [⟨((4+a:Nat):Int),(p:Int),0⟩,⟨((4+b:Nat):Int),(q:Int),0⟩]=true:=by
 have key:∀a:Fin 12,∀p:Fin 4,aJI ⟨((4+a.val:Nat):Int),(p.val:Int),0⟩=false:=by decide
 have h1:=key ⟨a,ha⟩ ⟨p,hp⟩
 have h2:=key ⟨b,hb⟩ ⟨q,hq⟩
 dsimp only at h1 h2
 refine⟨?_,rfl⟩
 show(((true&& !aJI ⟨((4+a:Nat):Int),(p:Int),0⟩)&& !aJI ⟨((4+b:Nat):Int),(q:Int),0⟩)&&(decide ((1:Int)<=2)&&decide ((2:Int)<=4)))=true
 rw [h1,h2];rfl
theorem aTD {x y:Nat} (hx:x<6)(hy:y<6):(newF [((2+x:Nat):Int),((2+y:Nat):Int)]).2=0/\(newF [((2+x:Nat):Int),((2+y:Nat):Int)]).1.length=2/\4<=szF (newF [((2+x:Nat):Int),((2+y:Nat):Int)]).1:=by
 have key:∀x y:Fin 6,(newF [((2+x.val:Nat):Int),((2+y.val:Nat):Int)]).2=0/\(newF [((2+x.val:Nat):Int),((2+y.val:Nat):Int)]).1.length=2/\4<=szF (newF [((2+x.val:Nat):Int),((2+y.val:Nat):Int)]).1:=by decide +kernel
 exact key ⟨x,hx⟩ ⟨y,hy⟩
theorem bGC {a b p q x y:Nat} (ha:a<12)(hb:b<12)(hp:p<4)(hq:q<4)(hx:x<6)(hy:y<6):∃c:Dc,(∃z g,c=c0 z g/\aSS z/\rI g=true/\g.length=2/\z.length=2/\4<=szF z/\aMK g=true)/\
 aM Tryz.prog 29 [] [.lst 2 false (rB [(0,0),(0,1),(1,2)]),.lst 1 false (aE [((2+x:Nat):Int),((2+y:Nat):Int)]),.lst 3 false (bC [⟨((4+a:Nat):Int),(p:Int),0⟩,⟨((4+b:Nat):Int),(q:Int),0⟩])] (.tup [.agg c.c,.int .i64 0]) []:=by
 obtain⟨g1,g2⟩:=aTC ha hb hp hq
 obtain⟨z1,z2,z3⟩:=aTD hx hy
 refine⟨_,⟨_,_,rfl,aKS z1,g1,rfl,z2,z3,g2⟩,?_⟩
 have k:=bK6 [(0,0),(0,1),(1,2)] false [((2+x:Nat):Int),((2+y:Nat):Int)] false [⟨((4+a:Nat):Int),(p:Int),0⟩,⟨((4+b:Nat):Int),(q:Int),0⟩] false (by decide) (by show 2<=100000;omega) (by show 2<=100000;omega)
 have e:aRW [(0,0),(0,1),(1,2)] [((2+x:Nat):Int),((2+y:Nat):Int)] [⟨((4+a:Nat):Int),(p:Int),0⟩,⟨((4+b:Nat):Int),(q:Int),0⟩]=(aVP [(0,0),(0,1),(1,2)] (newF [((2+x:Nat):Int),((2+y:Nat):Int)]).1 [⟨((4+a:Nat):Int),(p:Int),0⟩,⟨((4+b:Nat):Int),(q:Int),0⟩],0):=by
  unfold aRW
  rw [g1,g2,z1,show aCN [(0,0),(0,1),(1,2)]=true from by decide];rfl
 rw [e] at k
 exact k.le (kN.refl _) (.tups (.cons (bGD _ _) (.cons (.refl _) .nil))) (lQ.refl _)
open Classical in
noncomputable def stp(L:List Int)(p:Dc×Nat):Dc×Nat:=
 if h:(L.length:Int)<2^62/\Ok p.1/\p.1.fl.length=3/\p.2<=L.length then(Classical.choose (aIV L h.1 p.1 h.2.1 h.2.2.1 h.2.2.2),Classical.choose (Classical.choose_spec (aIV L h.1 p.1 h.2.1 h.2.2.1 h.2.2.2))) else p
theorem aW8(L:List Int)(hL:(L.length:Int)<2^62)(p:Dc×Nat)(h1:Ok p.1)(h2:p.1.fl.length=3)(h3:p.2<=L.length):
 oP p.1 (stp L p).1/\(stp L p).2<=L.length/\aM Tryz.prog 184 [lC L p.2] [.ptr 0 0 0,.agg p.1.c] (.agg (stp L p).1.c) [lC L (stp L p).2]:=by
 unfold stp
 rw [dif_pos ⟨hL,h1,h2,h3⟩]
 exact Classical.choose_spec (Classical.choose_spec (aIV L hL p.1 h1 h2 h3))
noncomputable def aF3(L:List Int):Nat->Dc×Nat->Dc×Nat
 |0,p=>p
 |n+1,p=>bif decide ((L.length:Int)<=(p.2:Int)) then p else aF3 L n (stp L p)
theorem aQ2(L:List Int)(hL:(L.length:Int)<2^62):∀(n:Nat) (p:Dc×Nat),Ok p.1->p.1.fl.length=3->p.2<=L.length->oP p.1 (aF3 L n p).1/\(aF3 L n p).2<=L.length
 |0,p,_,_,h3=>⟨.refl _,h3⟩
 |n+1,p,h1,h2,h3=>by
  rw [aF3]
  cases decide ((L.length:Int)<=(p.2:Int)) with
  |true=>exact⟨.refl _,h3⟩
  |false=>
   obtain⟨s1,s2,s3⟩:=aW8 L hL p h1 h2 h3
   obtain⟨o1,o2⟩:=s1.sh h1
   obtain⟨r1,r2⟩:=aQ2 L hL n (stp L p) o1 (by rw [o2.fl];exact h2) s2
   exact⟨.trans s1 r1,r2⟩
def Drw(c:Dc):Prop:=∃z g,aSS z/\rI g=true/\g.length=2/\z.length=2/\4<=szF z/\aMK g=true/\oP (c0 z g) c
noncomputable def R81:Rsv Tryz.prog Tryz.f81 [.s 31] 1:=⟨_,_,rfl,rfl⟩
theorem bMS(L:List Int)(hL:(L.length:Int)<2^62) {J:Nat} (hJ:J<=L.length):
 ∃(c:Dc) (J':Nat),Drw c/\J'<=L.length/\aM Tryz.prog 81 [lC L J] [.ptr 0 0 0] (.agg c.c) [lC L J']:=by
 obtain⟨a,J1,ha,hJ1,k1⟩:=draw L hL hJ 12 (by decide) (by decide)
 obtain⟨p,J2,hp,hJ2,k2⟩:=draw L hL hJ1 4 (by decide) (by decide)
 obtain⟨b,J3,hb,hJ3,k3⟩:=draw L hL hJ2 12 (by decide) (by decide)
 obtain⟨q,J4,hq,hJ4,k4⟩:=draw L hL hJ3 4 (by decide) (by decide)
 obtain⟨x,J5,hx,hJ5,k5⟩:=draw L hL hJ4 6 (by decide) (by decide)
 obtain⟨y,J6,hy,hJ6,k6⟩:=draw L hL hJ5 6 (by decide) (by decide)
 obtain⟨n,J7,hn,hJ7,k7⟩:=draw L hL hJ6 40 (by decide) (by decide)
 obtain⟨c,⟨z,g,hc,hz,hg,hgl,hzl,hsz,hch⟩,k29⟩:=bGC (a:=a) (b:=b) (p:=p) (q:=q) (x:=x) (y:=y) (by omega) (by omega) (by omega) (by omega) (by omega) (by omega)
 have hok:Ok c:=by rw [hc];exact aT2 hz hg
 have hcf:c.fl.length=3:=by rw [hc];rfl
 obtain⟨r1,r2⟩:=aQ2 L hL (4+n) (c,J7) hok hcf hJ7
 refine⟨(aF3 L (4+n) (c,J7)).1,(aF3 L (4+n) (c,J7)).2,⟨z,g,hz,hg,hgl,hzl,hsz,hch,by rw [<-hc];exact r1⟩,r2,?_⟩
 generalize hR:aF3 L (4+n) (c,J7)=R at *
 clear r1 r2 hc hch
 refine bE R81 (ob0:= [lC L J]) Tryz.func81 rfl rfl rfl ?_
 refine Wy ?_
 refine⟨Unit,λ_=>True,λ_=>⟨[(0,⟨[],true,.ptr 0 0 0⟩),(2,⟨[],true,.ptr 1 0 0⟩),(3,⟨[],true,.lst 3 false (bC [⟨((4+a:Nat):Int),(p:Int),0⟩,⟨((4+b:Nat):Int),(q:Int),0⟩])⟩),(24,⟨[],true,.lst 2 false (rB [(0,0),(0,1),(1,2)])⟩),(31,⟨[],true,.lst 1 false (aE [((2+x:Nat):Int),((2+y:Nat):Int)])⟩)],[(0,lC L J6),(1,.box [bR,bR,bR,bR,bR,bR,bR])],2⟩,?_,λ_ _=>?_⟩
 ·rw [<-aI7]
  refine Wy ?_
  refine⟨(),trivial,?_⟩
  exact Vr [some 0,some 1]
 clear k1 k2 k3 k4 k5 k6
 refine Wy ?_
 refine Lp (α:=Nat×(Dc×Nat)) (λp=>(Ok p.2.1/\p.2.1.fl.length=3)/\p.2.2<=L.length/\aF3 L p.1 p.2=R/\p.1<=100) (λp=> [(6,.int .i64 (p.1:Int))]) (λp=> [(0,lC L p.2.2),(2,.box p.2.1.c)]) (λp=>p.1) (4+n,(c,J7)) ⟨⟨hok,hcf⟩,hJ7,hR,by show 4+n<=100;omega⟩ ?_ ?_
 ·exact Vr [_,_,_]
 rintro ⟨i,d,J⟩ ⟨⟨i1,i2⟩,i3,i4,i5⟩
 dsimp only at i1 i2 i3 i4 i5
 clear k7 k29
 cases i with
 |zero=>
  subst i4
  rw [show aF3 L 0 (d,J)=(d,J) from rfl]
  exact Wo
 |succ i=>
  have k74:=bMR L J
  by_cases e:(L.length:Int)<=(J:Int)
  ·rw [decide_eq_true e] at k74
   rw [aF3,decide_eq_true e,cond_true] at i4
   subst i4
   refine Wy ?_
   refine .inl ⟨_,λ_=>⟨λv hv=>?_,k74⟩,.inr rfl,?_⟩
   ·obtain rfl:=List.mem_singleton.1 hv
    exact⟨rfl,rfl⟩
   exact Wo
  ·rw [decide_eq_false e] at k74
   rw [aF3,decide_eq_false e,cond_false] at i4
   obtain⟨s1,s2,s3⟩:=aW8 L hL (d,J) i1 i2 i3
   obtain⟨o1,o2⟩:=s1.sh i1
   generalize stp L (d,J)=st at *
   dsimp only at *
   refine Wy ?_
   refine .inl ⟨_,λ_=>⟨λv hv=>?_,k74⟩,.inr rfl,?_⟩
   ·obtain rfl:=List.mem_singleton.1 hv
    exact⟨rfl,rfl⟩
   refine Wy ?_
   refine Le (i,st) (hI:=⟨⟨o1,by rw [o2.fl];exact i2⟩,s2,i4,by omega⟩) (hv:=?_)
   exact Vr [_,_,_]
theorem bMA(L:List Int)(hL:(L.length:Int)<2^62):∃(c:Dc) (J:Nat),Drw c/\J<=L.length/\aM Tryz.prog 39 [] [.lst 1 false (aE L)] (.tup [.agg c.c,.ptr 0 0 0]) [lC L J]:=by
 obtain⟨c,J,hc,hJ,k81⟩:=bMS L hL (J:=0) (Nat.zero_le _)
 refine⟨c,J,hc,hJ,?_⟩
 have e:lC L 0=.box [.lst 1 false (aE L),.int .i64 0]:=rfl
 rw [e] at k81
 refine aK (ob0:= []) [] Tryz.func39 rfl rfl rfl rfl ?_
 refine Wy ?_
 refine rE.mk ?_
 (repeat((conv=>whnf);first |refine And.intro (λ_=>⟨rfl,zG rfl⟩) ?_ |refine And.intro (λ_=>zG rfl) ?_ |refine And.intro (zG rfl) ?_))
 conv=>whnf
 refine⟨[some 1],?_,rfl,?_,rfl,?_⟩
 all_goals exact Cz
theorem Drw.ok {c:Dc} (h:Drw c):Ok c/\c.fl.length=3/\c.gr.length=2/\c.zo.length=2/\4<=c.fr.length:=by
 obtain⟨z,g,hz,hg,hgl,hzl,hsz,hch,hs⟩:=h
 obtain⟨o1,o2⟩:=hs.sh (aT2 hz hg)
 refine⟨o1,o2.fl,o2.gr.trans hgl,o2.zo.trans hzl,?_⟩
 rw [o2.fr]
 show 4<=(zA (szF z).toNat none).length
 rw [zC];omega
end Go.Proofs.YtmhapcbjjpadnaaGreat
