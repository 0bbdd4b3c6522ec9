/- Caches. -/
import Derived.Test.YtmhapcbjjpadnaaGreatG7c
import Derived.Test.YtmhapcbjjpadnaaGreatG6c
import Derived.Test.YtmhapcbjjpadnaaGreatG3c
import Derived.Test.YtmhapcbjjpadnaaGreatK7c
import Derived.Test.YtmhapcbjjpadnaaGreatG4c
import Derived.Test.YtmhapcbjjpadnaaGreatG2c
set_option linter.all false
set_option maxHeartbeats 2000000
set_option maxRecDepth 40000
open Bool renaming cond_false_right→zA,not_eq_false'→zC,cond_true_left→zD,not_eq_true'→zF,not_not→zG,and_eq_true→zM
open List renaming replicate→zE,getD_eq_getElem?_getD→zH,length_map→zI,getElem?_eq_getElem→zJ,take_length→zL
open Option renaming getD_some→zK
namespace Go.Proofs.YtmhapcbjjpadnaaGreat
open Go Go.Sk Go.RowKit
structure Tr where
 h:Int
 ks:List (List V)
 v:Int
 m:Int
structure Fl where
 dev:Int
 slot:Int
 tr:Tr
 size:Int
 blocks:Int
 ec:Int
 ee:Int
 sq:Int
 ss:Int
 sb:Int
 wh:Int
 seq:Int
structure Fr where
 file:Int
 page:Int
 data:ByteArray
 valid:Int
 dirty:Int
 ten:Int
 holds:Int
 rd:Int
 wr:Int
def Fr.c(f:Fr):List V:= [.int .i64 f.file,.int .i64 f.page,.str f.data,.int .i64 f.valid,.int .i64 f.dirty,.int .i64 f.ten,.int .i64 f.holds,.int .i64 f.rd,.int .i64 f.wr]
structure Pt where
 proc:Int
 page:Int
 frame:Int
 wr:Bool
 acc:Bool
def Pt.c(p:Pt):List V:= [.int .i64 p.proc,.int .i64 p.page,.int .i64 p.frame,.bool p.wr,.bool p.acc]
def sX(L:List Fr):List (List V):=L.map Fr.c
def aN(L:List Pt):List (List V):=L.map Pt.c
def aU(L:List Ls):List (List V):=L.map Ls.c
structure Ca where
 fl:List Fl
 fr:List Fr
 zo:List Zn
 gr:List Gr
 ls:List Ls
 ck:List Int
 pt:List Pt
theorem bO3 {α:Type} (f:α->List V)(L:List α)(k:Nat)(d:α)(h:k<L.length):(L.map f).getD ((k:Int)).toNat []=f (L.getD k d):=by rw [Int.toNat_natCast];simp [zH,h]
theorem bJE {α:Type} (f:α->List V)(L:List α)(k:Nat)(x:α):(L.map f).set k (f x)=(L.set k x).map f:=by rw [List.map_set]
def emT:Tr:=⟨0,[],0,0⟩
def noD:ByteArray:=⟨#[]⟩
def fre:Fr:=⟨-1,0,noD,0,0,0,0,0,0⟩
def l0:Ls:=⟨[],[],[]⟩
def p0:Pt:=⟨0,0,0,false,false⟩
theorem aWT(L:List Fr):(sX L).length=L.length:=zI _
theorem bT(L:List Pt):(aN L).length=L.length:=zI _
theorem bW(L:List Ls):(aU L).length=L.length:=zI _
theorem aAW(L:List Pt)(k:Nat)(h:k<L.length):(aN L).getD ((k:Int)).toNat []=(L.getD k p0).c:=bO3 _ L k _ h
theorem aRQ(L:List Ls)(k:Nat)(h:k<L.length):(aU L).getD ((k:Int)).toNat []=(L.getD k l0).c:=bO3 _ L k _ h
theorem iE(L:List Ls)(k:Nat)(x:Ls):(aU L).set k x.c=aU (L.set k x):=bJE Ls.c L k x
theorem aWR(L:List Gr)(k:Nat)(x:Gr):(aQ L).set k x.c=aQ (L.set k x):=bJE Gr.c L k x
theorem nP(L:List Pt)(k:Nat)(x:Pt):(aN L).set k x.c=aN (L.set k x):=bJE Pt.c L k x
theorem eF {i:Nat} (h:i<=1000000000):IntKind.i64.wrap ((i:Int)+1)=((i+1:Nat):Int):=by rw [aP (by omega) (by omega)];omega
theorem aEV {α:Type} {l:List α} {i:Nat} (d:α)(h:i<l.length):l.take (i+1)=l.take i++ [l.getD i d]:=by rw [List.take_succ_eq_append_getElem h];simp [zH,h]
def pL(z:Zn):Int:=z.size
def szF(l:List Zn):Int:=mC pL l
theorem bH3:aM Tryz.prog 214 [] [.int .i64 128] (.int .i64 7) []:=by refine cK Tryz.func214 ?_;refine Wk ?_;exact Lf
theorem bCC {d s:Int} :bCB (d,s)=(((decide (d<0)||decide (4<=d))||decide (s<0))||decide (7<=s)):=by
 unfold bCB bI1
 by_cases e:s<0 <;> by_cases h2:7<=s <;> simp [e,h2] <;> omega
def bR9:RC:=
 (.seq
 (.reg [oZ 2] [])
 (.seq
 (.seq
 (.reg [aH8 3 0] [])
 (.block 0
  (.loop
   (.seq
   (.seq
   (.reg [bN 5 3,
     bN 6 0,
     qS 7 6,
     aHA 8 5 7] [5,6,7])
   (.cond (.t 8)
    .skip
    (.exit 0)))
   (.seq
   (.block 1
    (.seq
    (.seq
    (.dreg 5120 5616 [bN 11 0,
      bN 12 3,
      qR 13 2 11 12,
      pE 14 0 13,
      sU 15 1 14,
      ⟨(some 16),none,(.bin .lss (.t 15) (.c (.int .i64 0)))⟩,
      bN 17 16,
      aJM 18 17 0,
      aJM 19 17 3,
      ⟨(some 20),(some (17,false)),(.iaddr 2 (.t 18) (.t 19))⟩,
      fS 21 17 0 20,
      iS 22 17 1 21,
      ⟨(some 23),(some (17,false)),(.bin .geq (.t 22) (.c (.int .i64 4)))⟩,
      mZ 24 17 23,
      bN 25 24,
      aJM 26 25 0,
      aJM 27 25 3,
      ⟨(some 28),(some (25,false)),(.iaddr 2 (.t 26) (.t 27))⟩,
      fS 29 25 1 28,
      iS 30 25 1 29,
      ⟨(some 31),(some (25,false)),(.bin .lss (.t 30) (.c (.int .i64 0)))⟩,
      mZ 32 25 31,
      bN 33 32,
      aJM 34 33 0,
      aJM 35 33 3,
      ⟨(some 36),(some (33,false)),(.iaddr 2 (.t 34) (.t 35))⟩,
      fS 37 33 1 36,
      iS 38 33 1 37,
      ⟨(some 39),(some (33,false)),(.call 214 [(.c (.int .i64 128))])⟩,
      ⟨(some 40),(some (33,false)),(.bin .geq (.t 38) (.t 39))⟩,
      mZ 41 33 40] [11,12,13,14,15,16,17,18,19,20,21,22,23,24,25,26,27,28,29,30,31,32,33,34,35,36,37,38,39,40] [[],[],[0,1],[2,1,0],[3,0,1,2],[4,2,1,0,3],[5,3,0,1,2,4],[6,4,2,1,0,3,5],[6,4,2,1,0,3,5],[7,8,6,4,2,1,0,3,5],[9,8,7,6,4,2,1,0,3,5],[10,7,8,9,6,4,2,1,0,3,5],[11,9,8,7,10,6,4,2,1,0,3,5],[12,5,3,0,1,2,4,6,10,7,8,9,11],[13,11,9,8,7,10,12,6,4,2,1,0,3,5],[14,5,3,0,1,2,4,6,12,10,7,8,9,11,13],[14,5,3,0,1,2,4,6,12,10,7,8,9,11,13],[15,16,14,5,3,0,1,2,4,6,12,10,7,8,9,11,13],[17,16,15,14,5,3,0,1,2,4,6,12,10,7,8,9,11,13],[18,15,16,17,14,5,3,0,1,2,4,6,12,10,7,8,9,11,13],[19,17,16,15,18,14,5,3,0,1,2,4,6,12,10,7,8,9,11,13],[20,13,11,9,8,7,10,12,6,4,2,1,0,3,5,14,18,15,16,17,19],[21,19,17,16,15,18,20,14,5,3,0,1,2,4,6,12,10,7,8,9,11,13],[22,13,11,9,8,7,10,12,6,4,2,1,0,3,5,14,20,18,15,16,17,19,21],[22,13,11,9,8,7,10,12,6,4,2,1,0,3,5,14,20,18,15,16,17,19,21],[23,24,22,13,11,9,8,7,10,12,6,4,2,1,0,3,5,14,20,18,15,16,17,19,21],[25,24,23,22,13,11,9,8,7,10,12,6,4,2,1,0,3,5,14,20,18,15,16,17,19,21],[26,23,24,25,22,13,11,9,8,7,10,12,6,4,2,1,0,3,5,14,20,18,15,16,17,19,21],[22,13,11,9,8,7,10,12,6,4,2,1,0,3,5,14,20,18,15,16,17,19,21],[27,25,24,23,26,28,22,13,11,9,8,7,10,12,6,4,2,1,0,3,5,14,20,18,15,16,17,19,21],[29,21,19,17,16,15,18,20,14,5,3,0,1,2,4,6,12,10,7,8,9,11,13,22,28,26,23,24,25,27]] [5120,5136,5152,5168,5184,5200,5216,5232,5248,5264,5280,5296,5312,5328,5344,5360,5376,5392,5408,5424,5440,5456,5472,5488,5504,5520,5536,5552,5568,5584,5600])
    (.cond (.t 41)
     (.seq
     (.reg [oZ 2] [])
     .ret)
     .skip))
    (.seq
    (.reg [aH8 4 0] [])
    (.block 2
     (.loop
      (.seq
      (.seq
      (.reg [bN 42 4,
        bN 43 3,
        aHA 44 42 43] [42,43])
      (.cond (.t 44)
       .skip
       (.exit 2)))
      (.seq
      (.block 3
       (.seq
       (.dreg 10240 10384 [bN 47 0,
         bN 48 4,
         qR 49 2 47 48,
         pF 50 2 49,
         bN 51 0,
         bN 52 3,
         qR 53 2 51 52,
         pF 54 2 53,
         ⟨(some 55),none,(.eqs false [(0,.i),(1,.i)] (.t 50) (.t 54))⟩] [47,48,49,50,51,52,53,54] [[],[],[0,1],[2,1,0],[],[],[4,5],[6,5,4],[3,0,1,2,7,4,5,6]] [10240,10256,10272,10288,10304,10320,10336,10352,10368])
       (.cond (.t 55)
        (.seq
        (.reg [oZ 2] [])
        .ret)
        .skip)))
      (.reg [bN 45 4,
        aH7 46 45 1,
        bN 4 46] [45,46]))))))))
   (.reg [bN 9 3,
     aH7 10 9 1,
     bN 3 10] [9,10]))))))
 (.seq
 (.reg [bN 56 0,
   qS 57 56,
   ⟨(some 58),none,(.bin .geq (.t 57) (.c (.int .i64 1)))⟩,
   bN 59 58,
   ⟨(some 60),(some (59,true)),(.mv (.t 0))⟩,
   ⟨(some 61),(some (59,true)),(.len (.t 60))⟩,
   ⟨(some 62),(some (59,true)),(.bin .leq (.t 61) (.c (.int .i64 8)))⟩,
   ⟨(some 63),none,(.pick (.t 59) (.t 62) (.c (.bool false)))⟩,
   bN 2 63] [56,57,58,59,60,61,62,63])
 .ret)))
theorem bKT:dK Go.Proofs.Tryz.prog Go.Proofs.Tryz.f111.ntmps ((Go.Proofs.Tryz.f111.body).getD .skip)=some (strip bR9):=by kernel_rfl
theorem bOE(l:List (Int×Int))(t:Bool)(T:l.length<=100000):aM Tryz.prog 111 [] [.lst 2 t (rH l)] (.bool (aDA l)) []:=by
 refine eT [] Tryz.func111 rfl rfl (aG0 bKT rfl) rfl ?_;generalize z:aDA l=q;rw [aDA] at z;refine Wk ?_;refine⟨Nat,λi=>i<=l.length/\bD (aXR l) i=true,λi=>⟨[(0,⟨[],true,.lst 2 t (rH l)⟩),(3,⟨[],true,.int .i64 (i:Int)⟩)],[],0⟩,λi=>l.length-i,⟨0,⟨by simp,rfl⟩,?_⟩,λi N=>?_⟩
 ·exact Vw []
 obtain⟨O,C⟩:=N;dsimp only at O C⊢;refine Wk ?_;refine aC (λB=>?_) (λB=>?_)<;> try simp only [zD,zA,zF,zC,zG] at B
 ·have B:i<l.length:=by simp [gG] at B;omega
  have m:aXR l i=(bCB (l.getD i (0,0))||decide (l.getD i (0,0)∈l.take i)):=rfl
  have hgt:=aAV l i B;generalize l.getD i (0,0)=f at m hgt;obtain⟨d,s⟩:=f;rw [bCC] at m;refine Wk ?_;refine⟨λ_=>⟨rfl,by omega,by rw [gG];omega⟩,?_⟩;rw [hgt];refine Wk ?_;refine⟨λ_=>⟨rfl,by omega,by rw [gG];omega⟩,?_⟩;rw [hgt];refine Wk ?_;refine⟨λ_=>⟨rfl,by omega,by rw [gG];omega⟩,?_⟩;rw [hgt];refine Wk ?_;refine⟨λ_=>⟨rfl,by omega,by rw [gG];omega⟩,?_⟩;rw [hgt];refine cO bH3 ?_;refine aC (λE=>?_) (λE=>?_)<;> try simp only [zD,zA,zF,zC,zG] at E
  ·have E:aXR l i=true:=by rw [m];simp at E⊢;omega
   rw [eM B E] at z;have z:q=false:=by rw [<-z];rfl
   subst z;refine Wk ?_
   try subst z
   exact Lf
  have E:(((decide (d<0)||decide (4<=d))||decide (s<0))||decide (7<=s))=false:=by simp at E⊢;omega
  rw [E,Bool.false_or] at m;refine Wk ?_;refine⟨Nat,λk=>k<=i/\∀j,j<k->l.getD j (0,0)≠(d,s),λk=>⟨[(0,⟨[],true,.lst 2 t (rH l)⟩),(3,⟨[],true,.int .i64 (i:Int)⟩),(4,⟨[],true,.int .i64 (k:Int)⟩)],[],0⟩,λk=>i-k,⟨0,⟨by simp,λj K=>absurd K (by omega)⟩,?_⟩,λk N=>?_⟩
  ·exact Vw []
  obtain⟨Q,D⟩:=N;dsimp only at Q D⊢;refine Wk ?_;refine aC (λG=>?_) (λG=>?_)<;> try simp only [zD,zA,zF,zC,zG] at G
  ·have G:k<i:=by simp at G;omega
   have J:=aAV l k (by omega);refine Wk ?_;refine⟨λ_=>⟨rfl,by omega,by rw [gG];omega⟩,?_⟩;rw [J];refine Wk ?_;refine⟨λ_=>⟨rfl,by omega,by rw [gG];omega⟩,?_⟩;rw [hgt];refine Wk ?_;generalize hg:l.getD k (0,0)=g;obtain⟨H,R⟩:=g;refine Wk ?_;refine aC (λF=>?_) (λF=>?_)<;> try simp only [zD,zA,zF,zC,zG] at F
   ·have F:H=d/\R=s:=by simpa using F
    obtain⟨rfl,rfl⟩:=F;have M:(H,R)∈l.take i:=by rw [<-hg];simp only [zH,show k<l.length by omega,zJ,zK];exact List.mem_take_iff_getElem.2 ⟨k,by omega,rfl⟩
    rw [zdt M] at m;rw [eM B m] at z;have z:q=false:=by rw [<-z];rfl
    subst z;refine Wk ?_
    try subst z
    exact Lf
   have F:¬(H=d/\R=s):=by simpa using F
   refine Wk ?_;rw [eF (by omega)];refine⟨k+1,⟨by show k+1<=_;omega,λj K=>?_⟩,?_,by show i- (k+1)<i-k;omega⟩
   ·by_cases e:j=k
    ·subst e;rw [hg];intro e;cases e;exact F ⟨rfl,rfl⟩
    ·exact D j (by omega)
   exact Vw []
  have G:k=i:=by simp at G;omega
  have M:(d,s)∉l.take i:=λh=>by obtain⟨j,K,e⟩:=List.mem_take_iff_getElem.1 h;refine D j (by omega) ?_;simp only [zH,show j<l.length by omega,zJ,zK,e]
  rw [zdf M] at m;refine Wk ?_;rw [eF (by omega)];refine⟨i+1,⟨by show i+1<=_;omega,by show bD (aXR l) (i+1)=true;simp only [bD,C,m];rfl⟩,?_,by show l.length- (i+1)<l.length-i;omega⟩;exact Vw []
 have B:i=l.length:=by simp [gG] at B;omega
 subst B;rw [C,Bool.true_and] at z;have z:(bif decide (1<=(l.length:Int)) then decide ((l.length:Int)<=8) else false)=q:=by rw [<-z];cases decide (1<=(l.length:Int))<;> rfl
 rw [<-gG] at z;subst z;refine Wk ?_
 try subst z
 exact Lf
theorem bL2(f n:Int)(h:0<=n):((oO f (f+n)).length:Int)=n:=by rw [aIF];omega
theorem aOL:∀(s:List Int) (f:Int) (l:List Zn),1<=f/\f<=65->newR f s=some l->
 (0<=mC pL l/\f+mC pL l<=65/\mC oX l=mC pL l)/\(∀z∈l,0<=z.size/\z.size<=100000)/\∀x,f<=x->x<f+mC pL l->∃z∈l,x∈z.free
 | [],f,l,C,h=>by rw [newR] at h;obtain rfl:=zsi h;refine⟨⟨by simp [mC],by simp [mC];omega,rfl⟩,by simp,λx B h2=>?_⟩;simp only [mC] at h2;omega
 |n::r,f,l,C,h=>by
  rw [newR] at h
  cases m:aF4 f n with
  |true=>rw [m] at h;cases h
  |false=>
   rw [m,zcf,Option.map_eq_some_iff] at h;obtain⟨l',B,rfl⟩:=h;obtain⟨H,J,K,M⟩:=vF C m;obtain⟨⟨N,O,Q⟩,D,E⟩:=aOL r (f+n) l' (by omega) B;have es:mC pL (mkZ f n::l')=n+mC pL l':=rfl;have F:mC oX (mkZ f n::l')=((oO f (f+n)).length:Int)+mC oX l':=rfl;rw [bL2 f n (by omega)] at F;refine⟨⟨by omega,by omega,by omega⟩,λz j=>?_,λx h2 R=>?_⟩
   ·rcases List.mem_cons.1 j with rfl |j
    ·exact⟨by show 0<=n;omega,by show n<=100000;omega⟩
    ·exact D z j
   ·by_cases e:x<f+n
    ·exact⟨_,List.mem_cons_self,(aOK f (f+n) x).2 ⟨h2,e⟩⟩
    ·obtain⟨z,j,G⟩:=E x (by omega) (by omega);exact⟨z,List.mem_cons_of_mem _ j,G⟩
structure aV3(z:List Zn):Prop where
 chk:bB z=true
 num:0<=szF z/\szF z<=64
 free:aJH z=szF z
 size:∀x∈z,0<=x.size/\x.size<=100000
 cov:∀x:Int,1<=x->x<1+szF z->∃y∈z,x∈y.free
theorem aHL {s:List Int} (h:(newF s).2=0):aV3 (newF s).1:=by obtain⟨e,h2,B⟩:=bDO h;obtain⟨⟨f,C,j⟩,m,z⟩:=aOL s 1 _ (by decide) B;exact⟨e,⟨f,by unfold szF;omega⟩,by rw [aJH,e];exact j,m,z⟩
def bL:V:=.lst 0 true []
def aOM(p:Int×Int):List V:= [.int .i64 p.1,.int .i64 p.2,.int .i64 0,bL,.int .i64 0,.int .i64 0,.int .i64 0,.int .i64 0,.int .i64 0,.int .i64 0,.int .i64 0,.int .i64 0,.int .i64 0,.int .i64 0,.int .i64 0]
def aVD(g:List Gr)(j:Nat):Bool:=(g.getD j g0).chg != 0
def aNF(g:List Gr):Bool:=bD (aVD g) g.length
def bAO:V:=.agg [bL,bL,bL,bL,bL,bL,bL]
def aP7(l:List (Int×Int))(z:List Zn)(g:List Gr):V:= .agg [.lst 15 false (l.map aOM),.lst 9 false (sX (zE (szF z).toNat fre)),.lst 6 false (aK z),.lst 3 false (aQ g),.lst 3 false (zE g.length [bL,bL,bL]),.lst 1 false (zE g.length [.int .i64 0]),bL]
def aP8(l:List (Int×Int))(s:List Int)(g:List Gr):V×Int:= bif !aDA l|| !mY g then(bAO,1) else bif !aNF g then(bAO,1) else bif (newF s).2 != 0 then(bAO,(newF s).2) else(aP7 l (newF s).1 g,0)
theorem aW8(l:List (Int×Int))(p:Int×Int):l.map aOM++ [aOM p]=(l++ [p]).map aOM:=by simp
theorem aYM(i:Nat):sX (zE i fre)++ [fre.c]=sX (zE (i+1) fre):=by simp [sX,List.replicate_succ']
theorem bEJ {α:Type} (n:Nat)(x:α):(zE n x).length=n:=List.length_replicate
theorem cF {α:Type} {n:Nat} {X Y:List α} (h:X=Y)(e:X.length=n):List.take n (List.drop 0 X)=Y:=by subst e;rw [List.drop_zero,zL];exact h
theorem lD {g:List Gr} (h:mY g=true):1<=g.length/\g.length<=4:=by simp only [mY,zM,decide_eq_true_eq] at h;omega
theorem aZA {l:List (Int×Int)} (h:aDA l=true):1<=l.length/\l.length<=8:=by simp only [aDA,zM,decide_eq_true_eq] at h;omega
def nb:Sk.Obj:=.box [bL,bL,bL,bL,bL,bL,bL]
theorem bHX(l:List (Int×Int))(t:Bool)(s:List Int)(t2:Bool)(g:List Gr)(t3:Bool)(hl:l.length<=100000)(hs:s.length<=100000)(hg:g.length<=100000):
 aM Tryz.prog 29 [] [.lst 2 t (rH l),.lst 1 t2 (aB s),.lst 3 t3 (aQ g)] (.tup [(aP8 l s g).1,.int .i64 (aP8 l s g).2]) []:=by
 refine cK Tryz.func29 ?_;generalize hk:aP8 l s g=q;rw [aP8] at hk;refine Wk2 (bOE l t hl) (aTG g t3 hg) ?_;refine aC (λb1=>?_) (λb1=>?_)<;> try simp only [zD,zA,zF,zC,zG] at b1
 ·have b1:(!aDA l|| !mY g)=true:=by revert b1;cases aDA l <;> cases mY g <;> simp
  rw [b1,zct] at hk;subst hk;refine Wk ?_
  try subst hk
  exact Lf
 have b1':(!aDA l|| !mY g)=false:=by revert b1;cases aDA l <;> cases mY g <;> simp
 rw [b1',zcf] at hk;simp only [Bool.or_eq_false_iff,zC] at b1';obtain⟨h1,h2⟩:=b1';have g1:=lD h2;have l1:=aZA h1;clear b1;refine Wk ?_;refine⟨Nat,λi=>i<=g.length/\bD (aVD g) i=true,λi=>⟨[(0,⟨[],true,.lst 2 t (rH l)⟩),(1,⟨[],true,.lst 1 t2 (aB s)⟩),(2,⟨[],true,.lst 3 t3 (aQ g)⟩),(6,⟨[],true,.ptr 0 0 0⟩),(8,⟨[],true,.int .i64 (i:Int)⟩)],[(0,nb)],1⟩,λi=>g.length-i,⟨0,⟨by simp,rfl⟩,?_⟩,λi hp=>?_⟩
 ·exact Vw [some 0]
 obtain⟨hp1,hp2⟩:=hp;dsimp only at hp1 hp2⊢;refine Wk ?_;rw [aL];refine aC (λb2=>?_) (λb2=>?_)<;> try simp only [zD,zA,zF,zC,zG] at b2
 ·have b2:i<g.length:=by simp at b2;omega
  refine Wk ?_;refine aG (⟨rfl,by omega,by rw [aL];omega⟩) ?_;rw [cY g i b2];have hbd:aVD g i=((g.getD i g0).chg != 0):=rfl;generalize g.getD i g0=f at hbd;refine Wk ?_;refine aC (λb3=>?_) (λb3=>?_)<;> try simp only [zD,zA,zF,zC,zG] at b3
  ·have b3:aVD g i=true:=by rw [hbd,<-b3]
   rw [show aNF g=false from eM b2 b3] at hk;have hk:(bAO,(1:Int))=q:=hk;subst hk;refine Wk ?_
   try subst hk
   exact Lf
  have b3:aVD g i=false:=by rw [hbd,<-b3]
  refine Wk ?_;rw [eF (by omega)];refine⟨i+1,⟨by show i+1<=_;omega,by show bD (aVD g) (i+1)=true;simp only [bD,hp2,b3];rfl⟩,?_,by show g.length- (i+1)<g.length-i;omega⟩;exact Vw [some 0]
 have b2:i=g.length:=by simp at b2;omega
 subst b2;rw [show aNF g=true from hp2] at hk;have hk:(bif (newF s).2 != 0 then(bAO,(newF s).2) else(aP7 l (newF s).1 g,0))=q:=hk;refine cO (bOF s t2 hs) ?_;refine aC (λb4=>?_) (λb4=>?_)<;> try simp only [zD,zA,zF,zC,zG] at b4
 ·have b4:((newF s).2 != 0)=true:=by rw [<-b4]
  rw [b4,zct] at hk;subst hk;refine Wk ?_
  try subst hk
  exact Lf
 have b4:((newF s).2 != 0)=false:=by rw [<-b4]
 rw [b4,zcf] at hk;subst hk;have hz:=aHL (s:=s) (by simpa using b4);generalize(newF s).1=z at hz⊢;obtain⟨n1,n2⟩:=hz.num;refine Wk ?_;refine⟨by rw [aL];omega,by rw [aL];omega,?_⟩;refine Wk ?_;rw [aL];refine⟨by omega,by omega,by omega,by omega,?_⟩;refine Wk ?_;rw [aL];refine⟨by omega,by omega,by omega,by omega,?_⟩;refine Wk ?_
 refine⟨Nat,λi=>i<=l.length,λi=>⟨[(0,⟨[],true,.lst 2 t (rH l)⟩),(6,⟨[],true,.ptr 0 0 0⟩),(9,⟨[],true,.lst 6 false (aK z)⟩),(11,⟨[],true,.ptr 1 0 0⟩),(12,⟨[],true,.int .i64 (i:Int)⟩)],
  [(0,nb),(1,.box [.sl 2 0 i,bL,.lst 6 false (aK z),.lst 3 false (aQ g),.lst 3 false (zE g.length [bL,bL,bL]),.lst 1 false (zE g.length [.int .i64 0]),bL]),(2,.row 15 ((l.take i).map aOM))],3⟩,λi=>l.length-i,⟨0,Nat.zero_le _,?_⟩,λi hI=>?_⟩
 ·refine bU [some 0,some ?k86_1,none] rfl rfl ?h3_86 ?h4_86 ?h5_86 ?h6_86 ?h7_86
  case' h7_86=>repeat' (first |exact trivial |rfl |exact .inl rfl |exact .inr rfl |exact id |exact zbc |apply And.intro)
  case' h4_86=>rfl
  case' h6_86=>rfl
  case' h3_86=>repeat' (first |exact trivial |rfl |exact .inl rfl |exact .inr rfl |exact id |exact zbc |apply And.intro)
  case' h5_86=>repeat' (first |exact trivial |rfl |exact .inl rfl |exact .inr rfl |exact id |exact zbc |apply And.intro)
  ·rw [aL];omega
  ·exact cF rfl (aL g)
  ·simp
  ·exact cF rfl (by simp)
  ·simp
  ·exact cF (by simp [aL]) (by simp)
 dsimp only at hI⊢;have hlen:((l.take i).map aOM).length=i:=by rw [zI,List.length_take];omega
 refine Wk ?_;rw [gG];refine aC (λb5=>?_) (λb5=>?_)<;> try simp only [zD,zA,zF,zC,zG] at b5
 ·have b5:i<l.length:=by simp at b5;omega
  refine Wk ?_;refine⟨λ_=>⟨rfl,by omega,by rw [gG];omega⟩,?_⟩;rw [aAV l i b5];have ht:=aEV (0,0) b5;generalize l.getD i (0,0)=f at ht;refine Wk ?_;refine⟨hlen.symm,by rw [hlen];show((i+1:Nat):Int)<=_;omega,by rw [hlen];show(i+1)*136<=_;omega,?_⟩;refine Wk ?_;rw [eF (by omega)];refine⟨i+1,by show i+1<=_;omega,?_,by show l.length- (i+1)<l.length-i;omega⟩;dsimp only;rw [ht];refine bU [some 0,some 1,some 16512] rfl rfl ?_ rfl ?_ rfl ?_
  repeat' (first |exact trivial |rfl |exact .inl rfl |exact .inr rfl |exact id |exact zbc |apply And.intro)
  ·show((l.take i).map aOM).length+1=_;rw [hlen]
  ·exact aW8 _ f
 have b5:i=l.length:=by simp at b5;omega
 subst b5;rw [zL] at hlen⊢;refine Wk ?_;generalize hn:(szF z).toNat=n;have hn':szF z=(n:Int):=by omega
 refine⟨Nat,λi=>i<=n,λi=>⟨[(6,⟨[],true,.ptr 0 0 0⟩),(9,⟨[],true,.lst 6 false (aK z)⟩),(11,⟨[],true,.ptr 1 0 0⟩),(13,⟨[],true,.int .i64 (i:Int)⟩)],
  [(0,nb),(1,.box [.lst 15 false (l.map aOM),.sl 2 0 i,.lst 6 false (aK z),.lst 3 false (aQ g),.lst 3 false (zE g.length [bL,bL,bL]),.lst 1 false (zE g.length [.int .i64 0]),bL]),(2,.row 9 (sX (zE i fre)))],3⟩,λi=>n-i,⟨0,Nat.zero_le _,?_⟩,λi hI=>?_⟩
 ·refine bU [some 0,some 1,none] rfl rfl ?_ rfl ?_ rfl ?_
  repeat' (first |exact trivial |rfl |exact .inl rfl |exact .inr rfl |exact id |exact zbc |apply And.intro)
  ·omega
  ·exact cF rfl hlen
 dsimp only at hI⊢;have hlen2:(sX (zE i fre)).length=i:=by rw [aWT,bEJ]
 refine cO (bOG z false (gO hz.chk)) ?_;rw [hz.free,hn'];refine aC (λb6=>?_) (λb6=>?_)<;> try simp only [zD,zA,zF,zC,zG] at b6
 ·have b6:i<n:=by simp at b6;omega
  refine Wk ?_;refine aG hlen2.symm (cA (by rw [hlen2];show((i+1:Nat):Int)<=_;omega) (by rw [hlen2];show(i+1)*80<=_;omega) ?_);refine Wk ?_;rw [eF (by omega)];refine⟨i+1,by show i+1<=_;omega,?_,by show n- (i+1)<n-i;omega⟩;dsimp only;rw [<-aYM];refine bU [some 0,some 1,some 4] rfl rfl ?_ rfl ?_ rfl ?_
  repeat' (first |exact trivial |rfl |exact .inl rfl |exact .inr rfl |exact id |exact zbc |apply And.intro)
  show(sX (zE i fre)).length+1=_;rw [hlen2]
 have b6:i=n:=by simp at b6;omega
 subst b6;refine Wk ?_;refine⟨[],trivial,rfl,trivial,rfl,?_⟩
 try subst hk
 repeat' (first |exact trivial |rfl |exact .inl rfl |exact .inr rfl |exact id |exact zbc |apply And.intro)
 ·omega
 ·exact cF (by rw [hn]) hlen2
end Go.Proofs.YtmhapcbjjpadnaaGreat
