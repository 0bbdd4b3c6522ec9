/- Caches. -/
import Derived.Test.YtmhapcbjjpadnaaGreatOCm
import Derived.Test.YtmhapcbjjpadnaaGreatGQm
import Derived.Test.YtmhapcbjjpadnaaGreatXYAm
set_option linter.unusedSimpArgs false
set_option linter.unusedVariables false
open List renaming replicate→zA,map_replicate→zC,getD_eq_getElem?_getD→zD,getElem?_replicate→zE,length_replicate→zF
open Nat renaming zero_le→zG
set_option linter.constructorNameAsVariable false
set_option maxRecDepth 40000
namespace Go.Proofs.YtmhapcbjjpadnaaGreat
open Go Go.Sk Go.RowKit
theorem aJA(c:Dc)(f off n:Nat):∀k,(mY c f off n k).1.fl=c.fl∧(mY c f off n k).1.fr=c.fr∧(mY c f off n k).1.zo=c.zo∧(mY c f off n k).1.gr=c.gr
 |0=>⟨rfl,rfl,rfl,rfl⟩
 |k+1=>by
  have ih:=aJA c f off n k
  rw [mY]
  split
  ·exact ih
  ·exact ih
theorem bJN {c:Dc} {W D:Nat→UInt8} {z:Nat} (i:Inv c W D z)(off n:Nat)(hb:off+n≤128) {w:ByteArray} (hw:∀x,W x=iY w x)(hs:z=w.size):
 ∃(a:Dc) (d:ByteArray) (e:Int),aQ Tryz.prog 55 [] [.agg c.c,.int .i64 0,.int .i64 (off:Int),.int .i64 (n:Int)] (.tup [.agg a.c,.str d,.int .i64 e]) []∧Inv a W D z∧(e=0→d=aJD w off n):=by
 have h1:=i.fl
 have k55:=bJ8 c i.ok 0 off n (by omega) hb
 rw [show((0:Nat):Int)=0 from rfl] at k55
 have hx:Inv c.x W D z:=i.step (kI.x c) i.ok i.okm (Sh.refl c) i.md i.sz
 unfold aO8 at k55
 have hrd:bY c 0 off n=min n (w.size-off):=by unfold bY;rw [i.sz,hs]
 cases hL:fK c 0 off (bY c 0 off n) false (cnt off (bY c 0 off n)) with
 |none=>
  rw [hL] at k55
  exact⟨_,_,_,k55,hx,fun e=>by cases e⟩
 |some L=>
  rw [hL] at k55
  cases L with
  |cons y L=>exact⟨_,_,_,k55,hx,fun e=>by cases e⟩
  |nil=>
   dsimp only at k55
   obtain⟨s1,s2⟩:=aO4 (kI.x c) 0 off (bY c 0 off n) (cnt off (bY c 0 off n))
   obtain⟨o1,-,-⟩:=aLR i.ok 0 off (bY c 0 off n) (cnt off (bY c 0 off n))
   obtain⟨e1,e2,e3,e4⟩:=aJA c 0 off (bY c 0 off n) (cnt off (bY c 0 off n))
   obtain⟨q1,q2⟩:=Md.mY i.ok h1 i.md (off:=off) (n:=bY c 0 off n) (by omega) (aDT hL) _ (Nat.le_refl _)
   have hcv:=aG1 off (bY c 0 off n)
   refine⟨_,_,_,k55,i.step s1 o1 (i.okm.keep e2 fun f p=>by rw [e1]) ⟨by rw [e1],by rw [e2],by rw [e3],by rw [e4]⟩ (i.md.of (fun p=>by unfold cC;rw [e1,e2]) (by rw [e1]) (by rw [e1])) (by rw [e1];exact i.sz),fun _=>?_⟩
   ·rw [s2]
    have hz:(mY c 0 off (bY c 0 off n) (cnt off (bY c 0 off n))).2.size=min n (w.size-off):=by rw [q1,←hrd];omega
    refine aRH (by rw [hz,aQ6]) fun j hj=>?_
    rw [q2 j hj,hw,aW2 w off n (by omega)]
def c1(z:List Zn)(g:List Gr):Dc:=⟨[⟨0,0,eE,0,0,0,0⟩],zA (szF z).toNat none,z,g,zA g.length l0,zA g.length 0,[]⟩
theorem bED {z:List Zn} {g:List Gr} (hz:aVK z)(hg:vC g=true):Ok (c1 z g):=by
 have h:=bEA hz hg
 have hf:∀f,f<1→(c1 z g).fl.getD f aK=(c0 z g).fl.getD f aK:=fun f hf=>by
  obtain rfl:f=0:=by omega
  rfl
 have hno:∀n,(c1 z g).fr.getD n none=none:=fun n=>by
  show(zA _ none).getD n none=none
  rw [zD,zE]
  split <;> rfl
 refine⟨by show 1≤3;omega,h.nr,h.ng,h.nl,h.nk,fun f hf'=>by rw [hf f hf'];exact h.file f (by show f<3;have :f<1:=hf';omega),fun n u hn hu=>(by rw [hno] at hu;cases hu),fun f p hf' hp=>?_,h.zone,h.free,h.gr,h.ls,h.mem,h.ck,h.pt⟩
 rw [hf f hf'] at hp
 obtain⟨n,u,k1,k2,k3,-⟩:=h.ent f p (by show f<3;have :f<1:=hf';omega) hp
 have k3:(c1 z g).fr.getD n none=some u:=k3
 rw [hno] at k3;cases k3
theorem bEC(z:List Zn)(g:List Gr):tN (aU3 [(0,0)] z g) (.agg (c1 z g).c):=by
 unfold aU3 c1 Dc.c
 refine .aggs (.cons (.refl _) (.cons ?_ (.cons (.refl _) (.cons (.refl _) (.cons ?_ (.cons ?_ (.cons .nils .nil)))))))
 ·show tN (.lst 9 false (sO (zA (szF z).toNat fre))) (.lst 9 false (bE (zA (szF z).toNat none)))
  unfold sO bE
  rw [zC,zC]
  exact .refl _
 ·show tN (.lst 3 false (zA g.length [bJ,bJ,bJ])) (.lst 3 false ((zA g.length l0).map Ls.c))
  rw [show zA g.length [bJ,bJ,bJ]=(zA g.length l0).map fun _=> [bJ,bJ,bJ] by rw [zC]]
  refine .rows (fun h=>h) fun x hx=>?_
  obtain rfl:=List.eq_of_mem_replicate hx
  exact .cons .nils (.cons .nils (.cons .nils .nil))
 ·show tN (.lst 1 false (zA g.length [.int .i64 0])) (.lst 1 false (aJ (zA g.length 0)))
  rw [aJ,zC]
  exact .refl _
def zer:Nat→UInt8:=fun _=>0
theorem bES {p:Nat} (hp:p<8):eU 0 p=true:=by
 have key:∀p:Fin 8,eU 0 p.val=true:=by decide
 exact key ⟨p,hp⟩
theorem bEB:∃c:Dc,Inv c zer zer 0∧
 aQ Tryz.prog 36 [] [.lst 2 false (rA [(0,0)]),.lst 1 false (aJ [8]),.lst 3 false (bP [⟨8,0,0⟩])] (.tup [.agg c.c,.int .i64 0]) []:=by
 have hz:(newF [8]).2=0:=by decide +kernel
 have hg:vC [⟨8,0,0⟩]=true:=by decide +kernel
 have hlen:(newF [8]).1.length=1∧szF (newF [8]).1=8:=by decide +kernel
 have hN:=aIW hz
 have o:=bED hN hg
 have hno:∀p,cC (c1 (newF [8]).1 [⟨8,0,0⟩]) 0 p=none:=fun p=>rfl
 refine⟨c1 (newF [8]).1 [⟨8,0,0⟩],⟨o,fun m u h1 h2=>?_,rfl,?_,hlen.1,rfl,?_,rfl⟩,?_⟩
 ·have :(c1 (newF [8]).1 [⟨8,0,0⟩]).fr.getD m none=none:=by
   show(zA _ none).getD m none=none
   rw [zD,zE]
   split <;> rfl
  rw [this] at h2;cases h2
 ·show(zA (szF (newF [8]).1).toNat none).length=8
  rw [zF,hlen.2];rfl
 ·refine⟨fun p P hp h=>?_,fun _ _=>rfl,fun p P i hp h=>?_,fun p i hp hi hz=>absurd hz (by show ¬p*16+i<0;omega),fun p hp _=>bES hp,fun p P hp h=>?_,fun p P hp h=>?_⟩
  all_goals
   rw [aBH (hno p)] at h
   cases h
 ·have k:=bGV [(0,0)] false [8] false [⟨8,0,0⟩] false (by decide) (by decide) (by decide)
  have e:aQ3 [(0,0)] [8] [⟨8,0,0⟩]=(aU3 [(0,0)] (newF [8]).1 [⟨8,0,0⟩],0):=by
   unfold aQ3
   rw [hg,hz,show aBB [(0,0)]=true from by decide,show aRL [⟨8,0,0⟩]=true from by decide];rfl
  rw [e] at k
  exact k.le (kF.refl _) (.tups (.cons (bEC _ _) (.cons (.refl _) .nil))) (lO.refl _)
theorem aYR {c:Dc} {W D:Nat→UInt8} {z:Nat} (i:Inv c W D z)(off:Nat)(s:ByteArray)(hs:1≤s.size∧s.size≤1000000):∃(a:Dc) (e:Int),aQ Tryz.prog 56 [] [.agg c.c,.int .i64 0,.int .i64 (off:Int),.str s] (.tup [.agg a.c,.int .i64 e]) []∧(e=0→off+s.size≤128∧Inv a (ovl W off s) D (max z (off+s.size))):=by
 obtain⟨a,k,s1⟩:=bK4 c i.ok i.okm 0 (off:Int) s hs.2
 refine⟨a,_,k,fun e=>?_⟩
 obtain⟨q1,q2,q3⟩:=i.md.wrt i.ok i.fl hs.1 e
 exact⟨q1,i.step s1 (aYQ i.ok _ _ _) (aVB i.ok i.okm _ _ _) (Sh.writ _ _ _ _) q2 (by rw [q3,i.sz])⟩
theorem aYG {c:Dc} {W D:Nat→UInt8} {z0:Nat} (i:Inv c W D z0)(z:Nat):∃(a:Dc) (e:Int),aQ Tryz.prog 64 [] [.agg c.c,.int .i64 0,.int .i64 (z:Int)] (.tup [.agg a.c,.int .i64 e]) []∧(e=0→z≤128∧Inv a (fun x=>if z≤x then 0 else W x) D z):=by
 obtain⟨a,k,s1⟩:=bK3 c i.ok 0 (z:Int)
 refine⟨a,_,k,fun e=>?_⟩
 obtain⟨q1,q2,q3⟩:=i.md.trn i.ok i.fl e
 exact⟨q1,i.step s1 (aYF i.ok _ _) (aUP i.ok i.okm _ _) (Sh.trn _ _ _) q2 q3⟩
theorem aXN {c:Dc} {W D:Nat→UInt8} {z:Nat} (i:Inv c W D z)(off n:Nat):∃(a:Dc) (e:Int),aQ Tryz.prog 62 [] [.agg c.c,.int .i64 0,.int .i64 (off:Int),.int .i64 (n:Int)] (.tup [.agg a.c,.int .i64 e]) []∧(e=0→off+n≤128∧Inv a (zro W off (min n (z-off))) D z):=by
 obtain⟨a,k,s1⟩:=bJM c i.ok 0 (off:Int) (n:Int)
 refine⟨a,_,k,fun e=>?_⟩
 obtain⟨q1,q2,q3⟩:=i.md.pun i.ok i.fl e
 exact⟨q1,i.step s1 (aXM i.ok _ _ _) (aTZ i.ok i.okm _ _ _) (Sh.pun _ _ _ _) (by rw [show min n (z-off)=bY c 0 off n by unfold bY;rw [i.sz]];exact q2) (q3.trans i.sz)⟩
end Go.Proofs.YtmhapcbjjpadnaaGreat
set_option maxRecDepth 40000
namespace Go.Proofs.YtmhapcbjjpadnaaGreat
open Go Go.Sk Go.RowKit
theorem Inv.W {c:Dc} {W W' D:Nat→UInt8} {z z':Nat} (i:Inv c W D z)(h:∀x,W' x=W x)(hz:z'=z):Inv c W' D z':=by
 obtain rfl:W'=W:=funext h
 subst hz;exact i
theorem bBQ {P:Program} {f:FuncId} {S:aC} {m:Nat} {K:V→aC→Nat→Prop} {args args':List V} {A B X D:Prop} (Fz:List Nat)(res:V)(k:aQ P f [] args' res [])(ha:args.map (pur S)=args')(hp:args.all (puB S)=true)(hq:args.all (aC3 Fz)=true)(hK:K res (iJ S Fz) (m+1)):lT A B ((true=true→oP P f args S m K)∧(true=false→X)) D:=by
 subst ha
 exact .frz ⟨fun _=>⟨Fz,res,k,aCM hp hq,hK⟩,fun h=>by cases h⟩
noncomputable def R12:Rsv Tryz.prog Tryz.f12 [.p 67] 1:=⟨_,_,rfl,rfl⟩
set_option maxHeartbeats 32000000 in
theorem bIZ(L:List Int)(hL:(L.length:Int)<2^62):aQ Tryz.prog 12 [] [.lst 1 false (aJ L)] (.bool true) []:=by
 obtain⟨c0,i0,k36⟩:=bEB
 have k38:=bJ2
 have hz0:cJ (zA 128 0)=zA 128 [V.int .u8 0]:=by unfold cJ;rw [zC];rfl
 have hfr0:=i0.fr
 have hfl0:=i0.fl
 have i0:Inv c0 (iY ⟨#[]⟩) (fun x=>(zA 128 (0:UInt8)).getD x 0) 0:=by
  have e:(fun x=>(zA 128 (0:UInt8)).getD x 0)=zer:=funext fun x=>by
   show(zA 128 (0:UInt8)).getD x 0=0
   rw [zD,zE]
   split <;> rfl
  rw [e]
  exact i0.W (fun x=>aFW (zG x)) rfl
 generalize hdk:zA 128 (0:UInt8)=dk0 at *
 have hdl:dk0.length=128:=by rw [←hdk,zF]
 clear hdk
 refine bR R12 (ob0:= []) Tryz.func12 rfl rfl rfl ?_
 refine Wy ?_
 refine bBQ [1,2,3] _ k36 rfl rfl rfl ?_
 refine Wy ?_
 refine Lp (α:=Nat×Nat×Dc×ByteArray×List UInt8) (fun p=>(p.1≤40∧p.2.1≤L.length)∧Inv p.2.2.1 (iY p.2.2.2.1) (fun x=>p.2.2.2.2.getD x 0) p.2.2.2.1.size∧p.2.2.2.1.size≤128∧p.2.2.2.2.length=128) (fun p=> [(8,.int .i64 (p.1:Int)),(6,.str p.2.2.2.1),(7,.sl 2 0 128)]) (fun p=> [(0,tpO L p.2.1),(1,.box p.2.2.1.c),(2,.row 1 (cJ p.2.2.2.2))]) (fun p=>40-p.1) (0,0,c0,⟨#[]⟩,dk0) ⟨⟨zG _,zG _⟩,i0,zG _,hdl⟩ ?_ ?_
 ·simp only [hz0]
  exact Vr [_,_,_]
 rintro ⟨k,J,c,w,dk⟩ ⟨⟨a1,a2⟩,i,a3,a4⟩
 dsimp only at a1 a2 i a3 a4
 clear k36 i0 hz0 hdl hfr0 hfl0
 have k74:=bJD L J
 by_cases b:k<40
 ·by_cases e:(L.length:Int)≤(J:Int)
  ·rw [decide_eq_true e] at k74
   refine Wy ?_
   refine .inl ⟨_,fun _=>⟨fun v hv=>?_,k74⟩,.inr rfl,?_⟩
   ·obtain rfl:=List.mem_singleton.1 hv
    exact⟨rfl,rfl⟩
   exact eR
  ·rw [decide_eq_false e] at k74
   obtain⟨off,J1,hoff,hJ1,k1⟩:=draw L hL a2 60 (by decide) (by decide)
   obtain⟨v,J2,hv,hJ2,k2⟩:=draw L hL hJ1 6 (by decide) (by decide)
   refine Wy ?_
   refine .inl ⟨_,fun _=>⟨fun v hv=>?_,k74⟩,.inr rfl,?_⟩
   ·obtain rfl:=List.mem_singleton.1 hv
    exact⟨rfl,rfl⟩
   refine Wy ?_
   refine⟨Nat×Dc×ByteArray×List UInt8,fun x=>x.1≤L.length∧Inv x.2.1 (iY x.2.2.1) (fun y=>x.2.2.2.getD y 0) x.2.2.1.size∧x.2.2.1.size≤128∧x.2.2.2.length=128,fun x=>⟨[(0,⟨[],true,.lst 1 false (aJ L)⟩),(49,⟨[],true,.bool false⟩),(3,⟨[],true,.ptr 0 0 0⟩),(4,⟨[],true,.ptr 1 0 0⟩),(6,⟨[],true,.str x.2.2.1⟩),(7,⟨[],true,.sl 2 0 128⟩),(8,⟨[],true,.int .i64 (k:Int)⟩),(9,⟨[],true,.int .i64 (off:Int)⟩)],[(0,tpO L x.1),(1,.box x.2.1.c),(2,.row 1 (cJ x.2.2.2))],3⟩,?_,fun x hx=>?_⟩
   ·clear k74 k1
    have hv:(v=0∨v=1)∨v=2∨v=3∨v=4∨v=5:=by omega
    rcases hv with (rfl |rfl)|rfl |rfl |rfl |rfl
    iterate 2
     ·obtain⟨l,J3,hl,hJ3,k3⟩:=draw L hL hJ2 20 (by decide) (by decide)
      obtain⟨s,J4,hs,hJ4,k48⟩:=bJ6 L hL hJ3 (1+l) (by omega)
      have k75:=aXB a4 (fun _=>rfl) i off s.size (by omega)
      have i2:=tY a4 (fun _=>rfl) i off s.size
      obtain⟨x,e,k56,q⟩:=aYR i2 off s (by omega)
      have k76:=bJE w a3 off s (by omega) (by omega)
      have hz:=aFC w off s
      have hy:=aMQ w off s
      generalize aE2 dk c off s.size=c2 at *
      generalize aDH w off s=w2 at *
      by_cases he:e=0
      ·obtain⟨q1,q2⟩:=q he
       subst he
       refine Wy ?_
       refine⟨(J4,x,w2,dk),⟨hJ4,q2.W hy hz,by show w2.size≤128;omega,a4⟩,?_⟩
       exact Vr [some 0,some 1,some 2]
      ·refine Wy ?_
       refine⟨(J4,c2,w,dk),⟨hJ4,i2,a3,a4⟩,?_⟩
       exact Vr [some 0,some 1,some 2]
    ·have k75:=aXB a4 (fun _=>rfl) i (min off w.size) (w.size-off) (by omega)
     have hk75:aQ Tryz.prog 75 [.row 1 (cJ dk)] [.agg c.c,.int .i64 ((min off w.size:Nat):Int),.int .i64 (max (IntKind.i64.wrap ((w.size:Int)- (off:Int))) 0),.sl 0 0 128] (.agg (aE2 dk c (min off w.size) (w.size-off)).c) [.row 1 (cJ dk)]:=by
      rw [aY (by omega) (by omega),show max ((w.size:Int)- (off:Int)) 0=((w.size-off:Nat):Int) by omega]
      exact k75
     clear k75
     have i2:=tY a4 (fun _=>rfl) i (min off w.size) (w.size-off)
     obtain⟨x,e,k64,q⟩:=aYG i2 off
     have k77:=bJF w a3 off (by omega)
     have hz:=kN w off
     have hy:=aBJ w off
     generalize aE2 dk c (min off w.size) (w.size-off)=c2 at *
     generalize uT w off=w2 at *
     by_cases he:e=0
     ·obtain⟨q1,q2⟩:=q he
      subst he
      refine Wy ?_
      refine⟨(J2,x,w2,dk),⟨hJ2,q2.W (fun y=>by rw [hy];by_cases h:y<off <;> simp [h,Nat.not_le.2,Nat.not_lt.1]) hz,by show w2.size≤128;omega,a4⟩,?_⟩
      exact Vr [some 0,some 1,some 2]
     ·refine Wy ?_
      refine⟨(J2,c2,w,dk),⟨hJ2,i2,a3,a4⟩,?_⟩
      exact Vr [some 0,some 1,some 2]
    ·obtain⟨n,J3,hn,hJ3,k3⟩:=draw L hL hJ2 40 (by decide) (by decide)
     have k75:=aXB a4 (fun _=>rfl) i off n (by omega)
     have i2:=tY a4 (fun _=>rfl) i off n
     obtain⟨x,e,k62,q⟩:=aXN i2 off n
     have k78:=bJG w a3 off n (by omega)
     have hz:=aQ0 w off n
     have hy:=aW1 w off n
     generalize aE2 dk c off n=c2 at *
     generalize aLM w off n=w2 at *
     by_cases he:e=0
     ·obtain⟨q1,q2⟩:=q he
      subst he
      refine Wy ?_
      refine⟨(J3,x,w2,dk),⟨hJ3,q2.W hy hz,by show w2.size≤128;omega,a4⟩,?_⟩
      exact Vr [some 0,some 1,some 2]
     ·refine Wy ?_
      refine⟨(J3,c2,w,dk),⟨hJ3,i2,a3,a4⟩,?_⟩
      exact Vr [some 0,some 1,some 2]
    ·obtain⟨r,J3,hr,hJ3,k3⟩:=draw L hL hJ2 8 (by decide) (by decide)
     have k79:=bJH a4 i (1+r) (by omega)
     obtain⟨q1,q2⟩:=aYS a4 (fun _=>rfl) i ((1+r:Nat):Int)
     generalize aK6 c ((1+r:Nat):Int) dk=x at *
     obtain⟨c2,dk2⟩:=x
     dsimp only at *
     refine Wy ?_
     refine⟨(J3,c2,w,dk2),⟨hJ3,q2,a3,q1⟩,?_⟩
     exact Vr [some 0,some 1,some 2]
    ·obtain⟨r,J3,hr,hJ3,k3⟩:=draw L hL hJ2 8 (by decide) (by decide)
     have k42:=bJ4 c i.ok ((1+r:Nat):Int)
     have q2:=i.ev ((1+r:Nat):Int)
     generalize evP c ((1+r:Nat):Int)=x at *
     obtain⟨c2,y⟩:=x
     dsimp only at *
     refine Wy ?_
     refine⟨(J3,c2,w,dk),⟨hJ3,q2,a3,a4⟩,?_⟩
     exact Vr [some 0,some 1,some 2]
   clear k74 k1 k2 i a3 a4 hJ1 hJ2 a2 hv
   obtain⟨J',c',w',dk'⟩:=x
   obtain⟨b1,i',b3,b4⟩:=hx
   dsimp only at b1 i' b3 b4⊢
   obtain⟨n,J3,hn,hJ3,k3⟩:=draw L hL b1 40 (by decide) (by decide)
   have k75:=aXB b4 (fun _=>rfl) i' off (min n (w'.size-off)) (by omega)
   have i2:=tY b4 (fun _=>rfl) i' off (min n (w'.size-off))
   obtain⟨a,d,y,k55,ia,hd⟩:=bJN i2 off n (by omega) (fun _=>rfl) rfl
   have k80:=bJI w' b3 off n (by omega) (by omega)
   have hsq:∀R:ByteArray,lJ R R=true:=fun R=>beq_self_eq_true _
   generalize aJD w' off n=R at *
   have hgf:=mV (c:=a) (f:=0) (by rw [ia.fl];omega)
   obtain⟨e0,e1,e2,e3,hfc,-⟩:=Df.cells (ia.ok.file 0 (by rw [ia.fl];omega)).E
   rw [hfc,ia.sz] at hgf
   have hafl:=ia.fl
   have hgf2:=mV (c:=aE2 dk' c' off (min n (w'.size-off))) (f:=0) (by rw [i2.fl];omega)
   obtain⟨f0,f1,f2,f3,hfc2,-⟩:=Df.cells (i2.ok.file 0 (by rw [i2.fl];omega)).E
   rw [hfc2,i2.sz] at hgf2
   have hcfl:=i2.fl
   have hk75:aQ Tryz.prog 75 [.row 1 (cJ dk')] [.agg c'.c,.int .i64 (off:Int),.int .i64 (if off≤w'.size then((min n (max (w'.size-off) 0):Nat):Int) else min (n:Int) (max ((w'.size:Int)- (off:Int)) 0)),.sl 0 0 128] (.agg (aE2 dk' c' off (min n (w'.size-off))).c) [.row 1 (cJ dk')]:=by
    rw [show(if off≤w'.size then((min n (max (w'.size-off) 0):Nat):Int) else min (n:Int) (max ((w'.size:Int)- (off:Int)) 0))=((min n (w'.size-off):Nat):Int) by split <;> omega]
    exact k75
   generalize aE2 dk' c' off (min n (w'.size-off))=c2 at *
   clear k75
   by_cases ho:off≤w'.size
   all_goals
    first |rw [if_pos ho] at hk75 |rw [if_neg ho] at hk75
    by_cases he:y=0
    ·have hd:=hd he
     subst hd he
     refine Wy ?_
     rw [hsq]
     refine Wy ?_
     refine Le (k+1,J3,a,w',dk') (hI:=⟨⟨by omega,hJ3⟩,ia,b3,b4⟩) (hv:=?_)
     exact Vr [_,_,_]
    ·refine Wy ?_
     refine Le (k+1,J3,c2,w',dk') (hI:=⟨⟨by omega,hJ3⟩,i2,b3,b4⟩) (hv:=?_)
     exact Vr [_,_,_]
 ·obtain rfl:k=40:=by omega
  exact eR
end Go.Proofs.YtmhapcbjjpadnaaGreat
