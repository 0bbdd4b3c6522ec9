/- Caches. -/
import Derived.Test.YtmhapcbjjpadnaaGreatG7m
import Derived.Test.YtmhapcbjjpadnaaGreatG6m
import Derived.Test.YtmhapcbjjpadnaaGreatG3m
import Derived.Test.YtmhapcbjjpadnaaGreatK7m
import Derived.Test.YtmhapcbjjpadnaaGreatG4m
import Derived.Test.YtmhapcbjjpadnaaGreatG2m
set_option linter.unusedSimpArgs false
set_option linter.unusedVariables false
open Bool renaming cond_false_right→zC,not_eq_false'→zD,cond_true_left→zE,not_eq_true'→zF,not_not→zG,and_eq_true→zL
open Int renaming toNat_natCast→zJ
open List renaming replicate→zA,length_map→zH,getD_eq_getElem?_getD→zI,take_length→zK
set_option linter.constructorNameAsVariable false
set_option maxRecDepth 40000
namespace Go.Proofs.YtmhapcbjjpadnaaGreat
open Go Go.Sk Go.RowKit
structure Tr where
 h:Int
 ks:List (List V)
 v:Int
 m:Int
structure Fl where
 dev:Int
 slot:Int
 tr:Tr
 size:Int
 blocks:Int
 ec:Int
 ee:Int
 sq:Int
 ss:Int
 sb:Int
 wh:Int
 seq:Int
structure Fr where
 file:Int
 page:Int
 data:ByteArray
 valid:Int
 dirty:Int
 ten:Int
 holds:Int
 rd:Int
 wr:Int
def Fr.c(f:Fr):List V:= [.int .i64 f.file,.int .i64 f.page,.str f.data,.int .i64 f.valid,.int .i64 f.dirty,.int .i64 f.ten,.int .i64 f.holds,.int .i64 f.rd,.int .i64 f.wr]
structure Pt where
 proc:Int
 page:Int
 frame:Int
 wr:Bool
 acc:Bool
def Pt.c(p:Pt):List V:= [.int .i64 p.proc,.int .i64 p.page,.int .i64 p.frame,.bool p.wr,.bool p.acc]
def sO(L:List Fr):List (List V):=L.map Fr.c
def bQ(L:List Pt):List (List V):=L.map Pt.c
def cN(L:List Ls):List (List V):=L.map Ls.c
structure Ca where
 fl:List Fl
 fr:List Fr
 zo:List Zn
 gr:List Gr
 ls:List Ls
 ck:List Int
 pt:List Pt
theorem bEW {α:Type} (f:α→List V)(L:List α)(k:Nat)(d:α)(h:k<L.length):(L.map f).getD ((k:Int)).toNat []=f (L.getD k d):=by
 rw [zJ]
 simp [zI,h]
theorem bC0 {α:Type} (f:α→List V)(L:List α)(k:Nat)(x:α):(L.map f).set k (f x)=(L.set k x).map f:=by rw [List.map_set]
def emT:Tr:=⟨0,[],0,0⟩
def f0:Fl:=⟨0,0,emT,0,0,0,0,0,0,0,0,0⟩
def noD:ByteArray:=⟨#[]⟩
def fre:Fr:=⟨-1,0,noD,0,0,0,0,0,0⟩
def l0:Ls:=⟨[],[],[]⟩
def p0:Pt:=⟨0,0,0,false,false⟩
theorem aQH(L:List Fr):(sO L).length=L.length:=zH _
theorem dS(L:List Pt):(bQ L).length=L.length:=zH _
theorem iF(L:List Ls):(cN L).length=L.length:=zH _
theorem aLX(L:List Pt)(k:Nat)(h:k<L.length):(bQ L).getD ((k:Int)).toNat []=(L.getD k p0).c:=bEW _ L k _ h
theorem aLV(L:List Ls)(k:Nat)(h:k<L.length):(cN L).getD ((k:Int)).toNat []=(L.getD k l0).c:=bEW _ L k _ h
theorem aA3(L:List Ls)(k:Nat)(x:Ls):(cN L).set k x.c=cN (L.set k x):=bC0 Ls.c L k x
theorem aQE(L:List Gr)(k:Nat)(x:Gr):(bP L).set k x.c=bP (L.set k x):=bC0 Gr.c L k x
theorem aQI(L:List Pt)(k:Nat)(x:Pt):(bQ L).set k x.c=bQ (L.set k x):=bC0 Pt.c L k x
theorem fC {i:Nat} (h:i≤1000000000):IntKind.i64.wrap ((i:Int)+1)=((i+1:Nat):Int):=by rw [aY (by omega) (by omega)];omega
theorem aB1 {α:Type} {l:List α} {i:Nat} (d:α)(h:i<l.length):l.take (i+1)=l.take i++ [l.getD i d]:=by
 rw [List.take_succ_eq_append_getElem h];simp [zI,h]
end Go.Proofs.YtmhapcbjjpadnaaGreat
set_option maxRecDepth 40000
namespace Go.Proofs.YtmhapcbjjpadnaaGreat
open Go Go.Sk Go.RowKit
def gR(z:Zn):Int:=z.size
def szF(l:List Zn):Int:=jO gR l
set_option maxRecDepth 20000 in
theorem bF4(l:List Zn)(t:Bool)(hl:l.length≤100000)(hs:∀z∈l,0≤z.size∧z.size≤100000):aQ Tryz.prog 131 [] [.lst 6 t (aW l)] (.int .i64 (szF l)) []:=by
 refine aF (ob0:= []) [] Tryz.func131 rfl rfl rfl rfl ?_
 generalize hk:szF l=q
 rw [szF] at hk
 refine Wk ?_
 rw [aG]
 refine⟨Nat×Int,fun p=>p.1≤l.length∧p.2+jO gR (l.drop p.1)=q∧0≤p.2∧p.2≤100000*(p.1:Int),fun p=>⟨[(3,⟨[],true,.int .i64 p.2⟩),(6,⟨[],true,.lst 6 t (aW l)⟩),(7,⟨[],true,.int .i64 (l.length:Int)⟩),(8,⟨[],true,.int .i64 (p.1:Int)⟩)],[],0⟩,fun p=>l.length-p.1,⟨(0,0),⟨by simp,by simpa using hk,by decide,by decide⟩,?_⟩,fun p hI=>?_⟩
 ·exact Vw []
 obtain⟨i,s⟩:=p
 obtain⟨hI1,hI2,hI3,hI4⟩:=hI
 dsimp only at hI1 hI2 hI3 hI4⊢
 refine Wk ?_
 refine aI (fun h3=>?_) (fun h3=>?_)<;> try simp only [zE,zC,zF,zD,zG] at h3
 ·have h3:i<l.length:=by simp at h3;omega
  have hf:=hs _ (List.getElem_mem h3)
  have hst:jO gR (l.drop i)=gR l[i]+jO gR (l.drop (i+1)):=by rw [List.drop_eq_getElem_cons h3];rfl
  rw [hst] at hI2
  refine Wk ?_
  first |refine aE (⟨rfl,by omega,by rw [aG];omega⟩) ?_ |refine aM (fun _=>⟨rfl,by omega,by rw [aG];omega⟩) ?_ |refine⟨fun _=>⟨rfl,by omega,by rw [aG];omega⟩,?_⟩
  rw [zJ,iG l i h3]
  generalize l[i]=z at hI2 hf
  unfold gR at hI2
  refine Wk ?_
  rw [aY (n:=s+z.size) (by omega) (by omega),aY (n:=(i:Int)+1) (by omega) (by omega),show((i:Int)+1)=((i+1:Nat):Int) by omega]
  refine⟨(i+1,s+z.size),⟨by show i+1≤_;omega,by show s+z.size+jO gR (l.drop (i+1))=q;unfold gR;omega,by show 0≤s+z.size;omega,by show s+z.size≤100000*((i+1:Nat):Int);omega⟩,?_,by show l.length- (i+1)<l.length-i;omega⟩
  exact Vw []
 have h3:i=l.length:=by simp at h3;omega
 rw [h3,List.drop_length,jO,Int.add_zero] at hI2
 subst hI2
 refine Wk ?_
 try subst hk
 exact Lf
end Go.Proofs.YtmhapcbjjpadnaaGreat
set_option maxRecDepth 40000
namespace Go.Proofs.YtmhapcbjjpadnaaGreat
open Go Go.Sk Go.RowKit
end Go.Proofs.YtmhapcbjjpadnaaGreat
set_option maxRecDepth 40000
namespace Go.Proofs.YtmhapcbjjpadnaaGreat
open Go Go.Sk Go.RowKit
theorem bD9(f n:Int)(h:0≤n):((pJ f (f+n)).length:Int)=n:=by rw [aJN];omega
theorem aIZ:∀(s:List Int) (f:Int) (l:List Zn),1≤f∧f≤65→newR f s=some l→
 (0≤jO gR l∧f+jO gR l≤65∧jO aN1 l=jO gR l)∧(∀z∈l,0≤z.size∧z.size≤100000)∧∀x,f≤x→x<f+jO gR l→∃z∈l,x∈z.free
 | [],f,l,hf,h=>by
   rw [newR] at h
   obtain rfl:=Option.some.inj h
   refine⟨⟨by simp [jO],by simp [jO];omega,rfl⟩,by simp,fun x h1 h2=>?_⟩
   simp only [jO] at h2;omega
 |n::r,f,l,hf,h=>by
  rw [newR] at h
  cases hb:aDZ f n with
  |true=>rw [hb] at h;cases h
  |false=>
   rw [hb,cond_false,Option.map_eq_some_iff] at h
   obtain⟨l',h1,rfl⟩:=h
   obtain⟨a1,a2,a3,a4⟩:=tO hf hb
   obtain⟨⟨b1,b2,b3⟩,b4,b5⟩:=aIZ r (f+n) l' (by omega) h1
   have es:jO gR (mkZ f n::l')=n+jO gR l':=rfl
   have ef:jO aN1 (mkZ f n::l')=((pJ f (f+n)).length:Int)+jO aN1 l':=rfl
   rw [bD9 f n (by omega)] at ef
   refine⟨⟨by omega,by omega,by omega⟩,fun z hz=>?_,fun x h2 h3=>?_⟩
   ·rcases List.mem_cons.1 hz with rfl |hz
    ·exact⟨by show 0≤n;omega,by show n≤100000;omega⟩
    ·exact b4 z hz
   ·by_cases e:x<f+n
    ·exact⟨_,List.mem_cons_self,(aIV f (f+n) x).2 ⟨h2,e⟩⟩
    ·obtain⟨z,hz,hx⟩:=b5 x (by omega) (by omega)
     exact⟨z,List.mem_cons_of_mem _ hz,hx⟩
structure aVK(z:List Zn):Prop where
 chk:bH z=true
 num:0≤szF z∧szF z≤64
 free:aZ2 z=szF z
 size:∀x∈z,0≤x.size∧x.size≤100000
 cov:∀x:Int,1≤x→x<1+szF z→∃y∈z,x∈y.free
theorem aIW {s:List Int} (h:(newF s).2=0):aVK (newF s).1:=by
 obtain⟨h1,h2,h3⟩:=aX8 h
 obtain⟨⟨b1,b2,b3⟩,b4,b5⟩:=aIZ s 1 _ (by decide) h3
 exact⟨h1,⟨b1,by unfold szF;omega⟩,by rw [aZ2,h1];exact b3,b4,b5⟩
def bJ:V:=.lst 0 true []
def aJ0(p:Int×Int):List V:= [.int .i64 p.1,.int .i64 p.2,.int .i64 0,bJ,.int .i64 0,.int .i64 0,.int .i64 0,.int .i64 0,.int .i64 0,.int .i64 0,.int .i64 0,.int .i64 0,.int .i64 0,.int .i64 0,.int .i64 0]
def aP8(g:List Gr)(j:Nat):Bool:=(g.getD j g0).chg != 0
def aRL(g:List Gr):Bool:=bO (aP8 g) g.length
def aU2:V:=.agg [bJ,bJ,bJ,bJ,bJ,bJ,bJ]
def aU3(l:List (Int×Int))(z:List Zn)(g:List Gr):V:=
 .agg [.lst 15 false (l.map aJ0),.lst 9 false (sO (zA (szF z).toNat fre)),.lst 6 false (aW z),.lst 3 false (bP g),.lst 3 false (zA g.length [bJ,bJ,bJ]),.lst 1 false (zA g.length [.int .i64 0]),bJ]
def aQ3(l:List (Int×Int))(s:List Int)(g:List Gr):V×Int:=
 bif !aBB l|| !vC g then(aU2,1) else bif !aRL g then(aU2,1) else bif (newF s).2 != 0 then(aU2,(newF s).2) else(aU3 l (newF s).1 g,0)
theorem aPT(l:List (Int×Int))(p:Int×Int):l.map aJ0++ [aJ0 p]=(l++ [p]).map aJ0:=by simp
theorem aS4(i:Nat):sO (zA i fre)++ [fre.c]=sO (zA (i+1) fre):=by simp [sO,List.replicate_succ']
theorem aY2 {α:Type} (n:Nat)(x:α):(zA n x).length=n:=List.length_replicate
theorem fP {α:Type} {n:Nat} {X Y:List α} (h:X=Y)(hn:X.length=n):List.take n (List.drop 0 X)=Y:=by
 subst hn;rw [List.drop_zero,zK];exact h
theorem uC {g:List Gr} (h:vC g=true):1≤g.length∧g.length≤4:=by
 simp only [vC,zL,decide_eq_true_eq] at h;omega
theorem aSM {l:List (Int×Int)} (h:aBB l=true):1≤l.length∧l.length≤8:=by
 simp only [aBB,zL,decide_eq_true_eq] at h;omega
def nb:Sk.Obj:=.box [bJ,bJ,bJ,bJ,bJ,bJ,bJ]
set_option maxRecDepth 20000 in
set_option maxHeartbeats 2000000 in
theorem bGV(l:List (Int×Int))(t:Bool)(s:List Int)(t2:Bool)(g:List Gr)(t3:Bool)(hl:l.length≤100000)(hs:s.length≤100000)(hg:g.length≤100000):
 aQ Tryz.prog 36 [] [.lst 2 t (rA l),.lst 1 t2 (aJ s),.lst 3 t3 (bP g)] (.tup [(aQ3 l s g).1,.int .i64 (aQ3 l s g).2]) []:=by
 refine aF (ob0:= []) [] Tryz.func36 rfl rfl rfl rfl ?_
 generalize hk:aQ3 l s g=q
 rw [aQ3] at hk
 refine Wk2 (bF3 l t hl) (aZF g t3 hg) ?_
 refine aI (fun b1=>?_) (fun b1=>?_)<;> try simp only [zE,zC,zF,zD,zG] at b1
 ·have b1:(!aBB l|| !vC g)=true:=by revert b1;cases aBB l <;> cases vC g <;> simp
  rw [b1,cond_true] at hk
  subst hk
  refine Wk ?_
  try subst hk
  exact Lf
 have b1':(!aBB l|| !vC g)=false:=by revert b1;cases aBB l <;> cases vC g <;> simp
 rw [b1',cond_false] at hk
 simp only [Bool.or_eq_false_iff,zD] at b1'
 obtain⟨h1,h2⟩:=b1'
 have g1:=uC h2
 have l1:=aSM h1
 clear b1
 refine Wk ?_
 rw [aO]
 refine⟨Nat,fun i=>i≤g.length∧bO (aP8 g) i=true,fun i=>⟨[(0,⟨[],true,.lst 2 t (rA l)⟩),(1,⟨[],true,.lst 1 t2 (aJ s)⟩),(2,⟨[],true,.lst 3 t3 (bP g)⟩),(6,⟨[],true,.ptr 0 0 0⟩),(24,⟨[],true,.lst 3 t3 (bP g)⟩),(25,⟨[],true,.int .i64 (g.length:Int)⟩),(26,⟨[],true,.int .i64 (i:Int)⟩)],[(0,nb)],1⟩,fun i=>g.length-i,⟨0,⟨by simp,rfl⟩,?_⟩,fun i hp=>?_⟩
 ·exact Vw [some 0]
 obtain⟨hp1,hp2⟩:=hp
 dsimp only at hp1 hp2⊢
 refine Wk ?_
 refine aI (fun b2=>?_) (fun b2=>?_)<;> try simp only [zE,zC,zF,zD,zG] at b2
 ·have b2:i<g.length:=by simp at b2;omega
  refine Wk ?_
  first |refine aE (⟨rfl,by omega,by rw [aO];omega⟩) ?_ |refine aM (fun _=>⟨rfl,by omega,by rw [aO];omega⟩) ?_ |refine⟨fun _=>⟨rfl,by omega,by rw [aO];omega⟩,?_⟩
  rw [lG g i b2]
  have hbd:aP8 g i=((g.getD i g0).chg != 0):=rfl
  generalize g.getD i g0=f at hbd
  refine Wk ?_
  refine aI (fun b3=>?_) (fun b3=>?_)<;> try simp only [zE,zC,zF,zD,zG] at b3
  ·have b3:aP8 g i=true:=by rw [hbd,←b3]
   rw [show aRL g=false from iC b2 b3] at hk
   have hk:(aU2,(1:Int))=q:=hk
   subst hk
   refine Wk ?_
   try subst hk
   exact Lf
  have b3:aP8 g i=false:=by rw [hbd,←b3]
  refine Wk ?_
  rw [fC (by omega)]
  refine⟨i+1,⟨by show i+1≤_;omega,by show bO (aP8 g) (i+1)=true;simp only [bO,hp2,b3];rfl⟩,?_,by show g.length- (i+1)<g.length-i;omega⟩
  exact Vw [some 0]
 have b2:i=g.length:=by simp at b2;omega
 subst b2
 rw [show aRL g=true from hp2] at hk
 have hk:(bif (newF s).2 != 0 then(aU2,(newF s).2) else(aU3 l (newF s).1 g,0))=q:=hk
 refine dF (aZG s t2 hs) ?_
 refine aI (fun b4=>?_) (fun b4=>?_)<;> try simp only [zE,zC,zF,zD,zG] at b4
 ·have b4:((newF s).2 != 0)=true:=by rw [←b4]
  rw [b4,cond_true] at hk
  subst hk
  refine Wk ?_
  try subst hk
  exact Lf
 have b4:((newF s).2 != 0)=false:=by rw [←b4]
 rw [b4,cond_false] at hk
 subst hk
 have hz:=aIW (s:=s) (by simpa using b4)
 generalize(newF s).1=z at hz⊢
 obtain⟨n1,n2⟩:=hz.num
 refine Wk ?_
 first |refine bZ (by rw [aO];omega) (by rw [aO];omega) ?_ |refine aE ⟨by rw [aO];omega,by rw [aO];omega⟩ ?_ |refine⟨by rw [aO];omega,by rw [aO];omega,?_⟩
 refine Wk ?_
 rw [aO]
 first |refine aFH (by omega) (by omega) (by omega) (by omega) ?_ |refine aE ⟨by omega,by omega,by omega,by omega⟩ ?_ |refine⟨by omega,by omega,by omega,by omega,?_⟩
 refine Wk ?_
 rw [aO]
 first |refine aFH (by omega) (by omega) (by omega) (by omega) ?_ |refine aE ⟨by omega,by omega,by omega,by omega⟩ ?_ |refine⟨by omega,by omega,by omega,by omega,?_⟩
 refine Wk ?_
 rw [gI]
 refine⟨Nat,fun i=>i≤l.length,fun i=>⟨[(6,⟨[],true,.ptr 0 0 0⟩),(10,⟨[],true,.lst 6 false (aW z)⟩),(12,⟨[],true,.ptr 1 0 0⟩),(54,⟨[],true,.lst 2 t (rA l)⟩),(55,⟨[],true,.int .i64 (l.length:Int)⟩),(56,⟨[],true,.int .i64 (i:Int)⟩)],
  [(0,nb),(1,.box [.sl 2 0 i,bJ,.lst 6 false (aW z),.lst 3 false (bP g),.lst 3 false (zA g.length [bJ,bJ,bJ]),.lst 1 false (zA g.length [.int .i64 0]),bJ]),(2,.row 15 ((l.take i).map aJ0))],3⟩,fun i=>l.length-i,⟨0,Nat.zero_le _,?_⟩,fun i hI=>?_⟩
 ·refine cO [some 0,some ?k146_1,none] rfl rfl ?h3_146 ?h4_146 ?h5_146 ?h6_146 ?h7_146
  case' h7_146=>repeat' (first |exact trivial |rfl |exact .inl rfl |exact .inr rfl |exact id |exact(fun h=>Bool.noConfusion h)|refine And.intro ?_ ?_)
  case' h4_146=>rfl
  case' h6_146=>rfl
  case' h3_146=>repeat' (first |exact trivial |rfl |exact .inl rfl |exact .inr rfl |exact id |exact(fun h=>Bool.noConfusion h)|refine And.intro ?_ ?_)
  case' h5_146=>repeat' (first |exact trivial |rfl |exact .inl rfl |exact .inr rfl |exact id |exact(fun h=>Bool.noConfusion h)|refine And.intro ?_ ?_)
  ·rw [aO];omega
  ·exact fP rfl (aO g)
  ·simp
  ·exact fP rfl (by simp)
  ·simp
  ·exact fP (by simp [aO]) (by simp)
 dsimp only at hI⊢
 have hlen:((l.take i).map aJ0).length=i:=by rw [zH,List.length_take];omega
 refine Wk ?_
 refine aI (fun b5=>?_) (fun b5=>?_)<;> try simp only [zE,zC,zF,zD,zG] at b5
 ·have b5:i<l.length:=by simp at b5;omega
  refine Wk ?_
  first |refine aE (⟨rfl,by omega,by rw [gI];omega⟩) ?_ |refine aM (fun _=>⟨rfl,by omega,by rw [gI];omega⟩) ?_ |refine⟨fun _=>⟨rfl,by omega,by rw [gI];omega⟩,?_⟩
  rw [aDM l i b5]
  have ht:=aB1 (0,0) b5
  generalize l.getD i (0,0)=f at ht
  refine Wk ?_
  refine aE hlen.symm (bZ (by rw [hlen];show((i+1:Nat):Int)≤_;omega) (by rw [hlen];show(i+1)*136≤_;omega) ?_)
  refine Wk ?_
  rw [fC (by omega)]
  refine⟨i+1,by show i+1≤_;omega,?_,by show l.length- (i+1)<l.length-i;omega⟩
  dsimp only
  rw [ht]
  refine cO [some 0,some 1,some 5] rfl rfl ?_ rfl ?_ rfl ?_
  repeat' (first |exact trivial |rfl |exact .inl rfl |exact .inr rfl |exact id |exact(fun h=>Bool.noConfusion h)|refine And.intro ?_ ?_)
  ·show((l.take i).map aJ0).length+1=_
   rw [hlen]
  ·exact aPT _ f
 have b5:i=l.length:=by simp at b5;omega
 subst b5
 rw [zK] at hlen⊢
 refine dF (bF4 z false (qE hz.chk).len hz.size) ?_
 generalize hn:(szF z).toNat=n
 have hn':szF z=(n:Int):=by omega
 rw [hn']
 refine⟨Nat,fun i=>i≤n,fun i=>⟨[(6,⟨[],true,.ptr 0 0 0⟩),(12,⟨[],true,.ptr 1 0 0⟩),(69,⟨[],true,.int .i64 (n:Int)⟩),(70,⟨[],true,.int .i64 (i:Int)⟩)],
  [(0,nb),(1,.box [.lst 15 false (l.map aJ0),.sl 2 0 i,.lst 6 false (aW z),.lst 3 false (bP g),.lst 3 false (zA g.length [bJ,bJ,bJ]),.lst 1 false (zA g.length [.int .i64 0]),bJ]),(2,.row 9 (sO (zA i fre)))],3⟩,fun i=>n-i,⟨0,Nat.zero_le _,?_⟩,fun i hI=>?_⟩
 ·refine cO [some 0,some 1,none] rfl rfl ?_ rfl ?_ rfl ?_
  repeat' (first |exact trivial |rfl |exact .inl rfl |exact .inr rfl |exact id |exact(fun h=>Bool.noConfusion h)|refine And.intro ?_ ?_)
  ·omega
  ·exact fP rfl hlen
 dsimp only at hI⊢
 have hlen2:(sO (zA i fre)).length=i:=by rw [aQH,aY2]
 refine Wk ?_
 refine aI (fun b6=>?_) (fun b6=>?_)<;> try simp only [zE,zC,zF,zD,zG] at b6
 ·have b6:i<n:=by simp at b6;omega
  refine Wk ?_
  refine aE hlen2.symm (bZ (by rw [hlen2];show((i+1:Nat):Int)≤_;omega) (by rw [hlen2];show(i+1)*80≤_;omega) ?_)
  refine Wk ?_
  rw [fC (by omega)]
  refine⟨i+1,by show i+1≤_;omega,?_,by show n- (i+1)<n-i;omega⟩
  dsimp only
  rw [←aS4]
  refine cO [some 0,some 1,some 4] rfl rfl ?_ rfl ?_ rfl ?_
  repeat' (first |exact trivial |rfl |exact .inl rfl |exact .inr rfl |exact id |exact(fun h=>Bool.noConfusion h)|refine And.intro ?_ ?_)
  show(sO (zA i fre)).length+1=_
  rw [hlen2]
 have b6:i=n:=by simp at b6;omega
 subst b6
 refine Wk ?_
 refine⟨[],trivial,rfl,trivial,rfl,?_⟩
 try subst hk
 repeat' (first |exact trivial |rfl |exact .inl rfl |exact .inr rfl |exact id |exact(fun h=>Bool.noConfusion h)|refine And.intro ?_ ?_)
 ·omega
 ·exact fP (by rw [hn]) hlen2
end Go.Proofs.YtmhapcbjjpadnaaGreat
set_option maxRecDepth 40000
namespace Go.Proofs.YtmhapcbjjpadnaaGreat
open Go Go.Sk Go.RowKit
end Go.Proofs.YtmhapcbjjpadnaaGreat
