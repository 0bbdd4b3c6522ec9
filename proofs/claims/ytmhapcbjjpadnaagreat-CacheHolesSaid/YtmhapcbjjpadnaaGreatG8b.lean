/- Caches. -/
import Derived.Test.YtmhapcbjjpadnaaGreatG7b
import Derived.Test.YtmhapcbjjpadnaaGreatG6b
import Derived.Test.YtmhapcbjjpadnaaGreatG3b
import Derived.Test.YtmhapcbjjpadnaaGreatK7b
import Derived.Test.YtmhapcbjjpadnaaGreatG4b
import Derived.Test.YtmhapcbjjpadnaaGreatG2b
set_option linter.all false
set_option maxHeartbeats 2000000
set_option maxRecDepth 40000
open Bool renaming cond_false_right→zA,not_eq_false'→zC,cond_true_left→zD,not_eq_true'→zF,not_not→zG,and_eq_true→zM
open List renaming replicate→zE,getD_eq_getElem?_getD→zH,length_map→zI,getElem?_eq_getElem→zJ,take_length→zL
open Option renaming getD_some→zK
namespace Go.Proofs.YtmhapcbjjpadnaaGreat
open Go Go.Sk Go.RowKit
structure Tr where
 h:Int
 ks:List (List V)
 v:Int
 m:Int
def Tr.c(t:Tr):List V:= [.int .i64 t.h,.lst 3 false t.ks,.int .i64 t.v,.int .i64 t.m]
structure Fl where
 dev:Int
 slot:Int
 tr:Tr
 size:Int
 blocks:Int
 ec:Int
 ee:Int
 sq:Int
 ss:Int
 sb:Int
 wh:Int
 seq:Int
def Fl.c(f:Fl):List V:= [.int .i64 f.dev,.int .i64 f.slot,.int .i64 f.tr.h,.lst 3 false f.tr.ks,.int .i64 f.tr.v,.int .i64 f.tr.m,.int .i64 f.size,.int .i64 f.blocks,.int .i64 f.ec,.int .i64 f.ee,.int .i64 f.sq,.int .i64 f.ss,.int .i64 f.sb,.int .i64 f.wh,.int .i64 f.seq]
structure Fr where
 file:Int
 page:Int
 data:ByteArray
 valid:Int
 dirty:Int
 ten:Int
 holds:Int
 rd:Int
 wr:Int
def Fr.c(f:Fr):List V:= [.int .i64 f.file,.int .i64 f.page,.str f.data,.int .i64 f.valid,.int .i64 f.dirty,.int .i64 f.ten,.int .i64 f.holds,.int .i64 f.rd,.int .i64 f.wr]
structure Pt where
 proc:Int
 page:Int
 frame:Int
 wr:Bool
 acc:Bool
def Pt.c(p:Pt):List V:= [.int .i64 p.proc,.int .i64 p.page,.int .i64 p.frame,.bool p.wr,.bool p.acc]
def bCI(L:List Fl):List (List V):=L.map Fl.c
def rC(L:List Fr):List (List V):=L.map Fr.c
def aY(L:List Pt):List (List V):=L.map Pt.c
def bW(L:List Ls):List (List V):=L.map Ls.c
structure Ca where
 fl:List Fl
 fr:List Fr
 zo:List Zn
 gr:List Gr
 ls:List Ls
 ck:List Int
 pt:List Pt
def Ca.c(c:Ca):List V:= [.lst 15 false (bCI c.fl),.lst 9 false (rC c.fr),.lst 6 false (aQ c.zo),.lst 3 false (bC c.gr),.lst 3 false (bW c.ls),.lst 1 false (aE c.ck),.lst 5 false (aY c.pt)]
theorem bGY {α:Type} (f:α->List V)(L:List α)(k:Nat)(d:α)(h:k<L.length):(L.map f).getD ((k:Int)).toNat []=f (L.getD k d):=by
 rw [Int.toNat_natCast]
 simp [zH,h]
theorem bDR {α:Type} (f:α->List V)(L:List α)(k:Nat)(x:α):(L.map f).set k (f x)=(L.set k x).map f:=by rw [List.map_set]
def emT:Tr:=⟨0,[],0,0⟩
def f0:Fl:=⟨0,0,emT,0,0,0,0,0,0,0,0,0⟩
def noD:ByteArray:=⟨#[]⟩
def fre:Fr:=⟨-1,0,noD,0,0,0,0,0,0⟩
def l0:Ls:=⟨[],[],[]⟩
def p0:Pt:=⟨0,0,0,false,false⟩
theorem aS8(L:List Fr):(rC L).length=L.length:=zI _
theorem aS(L:List Pt):(aY L).length=L.length:=zI _
theorem bT(L:List Ls):(bW L).length=L.length:=zI _
theorem uT(L:List Pt)(k:Nat)(h:k<L.length):(aY L).getD ((k:Int)).toNat []=(L.getD k p0).c:=bGY _ L k _ h
theorem aNV(L:List Ls)(k:Nat)(h:k<L.length):(bW L).getD ((k:Int)).toNat []=(L.getD k l0).c:=bGY _ L k _ h
theorem pR(L:List Ls)(k:Nat)(x:Ls):(bW L).set k x.c=bW (L.set k x):=bDR Ls.c L k x
theorem aS7(L:List Gr)(k:Nat)(x:Gr):(bC L).set k x.c=bC (L.set k x):=bDR Gr.c L k x
theorem aGV(L:List Pt)(k:Nat)(x:Pt):(aY L).set k x.c=aY (L.set k x):=bDR Pt.c L k x
theorem cV {i:Nat} (h:i<=1000000000):IntKind.i64.wrap ((i:Int)+1)=((i+1:Nat):Int):=by rw [aR (by omega) (by omega)];omega
theorem aCD {α:Type} {l:List α} {i:Nat} (d:α)(h:i<l.length):l.take (i+1)=l.take i++ [l.getD i d]:=by
 rw [List.take_succ_eq_append_getElem h];simp [zH,h]
end Go.Proofs.YtmhapcbjjpadnaaGreat
namespace Go.Proofs.YtmhapcbjjpadnaaGreat
open Go Go.Sk Go.RowKit
def nW(z:Zn):Int:=z.size
def szF(l:List Zn):Int:=jP nW l
def plc(f:Fl):Int×Int:=(f.dev,f.slot)
end Go.Proofs.YtmhapcbjjpadnaaGreat
namespace Go.Proofs.YtmhapcbjjpadnaaGreat
open Go Go.Sk Go.RowKit
theorem bBC:aM Tryz.prog 214 [] [.int .i64 128] (.int .i64 7) []:=by
 refine aF (ob0:= []) [] Tryz.func214 rfl rfl rfl rfl ?_
 refine Wk ?_
 try subst hk
 exact Lf
theorem aXI {d s:Int} :aXH (d,s)=(((decide (d<0)||decide (4<=d))||decide (s<0))||decide (7<=s)):=by
 unfold aXH aW6
 by_cases h1:s<0 <;> by_cases h2:7<=s <;> simp [h1,h2] <;> omega
def bK7:RC:=
 (.seq
 (.reg [⟨(some 2),none,(.mv (.c (.bool false)))⟩] [])
 (.seq
 (.seq
 (.reg [⟨(some 3),none,(.mv (.c (.int .i64 0)))⟩] [])
 (.block 0
  (.loop
   (.seq
   (.seq
   (.reg [⟨(some 5),none,(.mv (.t 3))⟩,
     ⟨(some 6),none,(.mv (.t 0))⟩,
     ⟨(some 7),none,(.len (.t 6))⟩,
     ⟨(some 8),none,(.bin .lss (.t 5) (.t 7))⟩] [5,6,7])
   (.cond (.t 8)
    .skip
    (.exit 0)))
   (.seq
   (.block 1
    (.seq
    (.seq
    (.dreg 5120 5616 [⟨(some 11),none,(.mv (.t 0))⟩,
      ⟨(some 12),none,(.mv (.t 3))⟩,
      ⟨(some 13),none,(.iaddr 2 (.t 11) (.t 12))⟩,
      ⟨(some 14),none,(.faddr 0 (.t 13))⟩,
      ⟨(some 15),none,(.ld false 1 (.t 14))⟩,
      ⟨(some 16),none,(.bin .lss (.t 15) (.c (.int .i64 0)))⟩,
      ⟨(some 17),none,(.mv (.t 16))⟩,
      ⟨(some 18),(some (17,false)),(.mv (.t 0))⟩,
      ⟨(some 19),(some (17,false)),(.mv (.t 3))⟩,
      ⟨(some 20),(some (17,false)),(.iaddr 2 (.t 18) (.t 19))⟩,
      ⟨(some 21),(some (17,false)),(.faddr 0 (.t 20))⟩,
      ⟨(some 22),(some (17,false)),(.ld false 1 (.t 21))⟩,
      ⟨(some 23),(some (17,false)),(.bin .geq (.t 22) (.c (.int .i64 4)))⟩,
      ⟨(some 24),none,(.pick (.t 17) (.c (.bool true)) (.t 23))⟩,
      ⟨(some 25),none,(.mv (.t 24))⟩,
      ⟨(some 26),(some (25,false)),(.mv (.t 0))⟩,
      ⟨(some 27),(some (25,false)),(.mv (.t 3))⟩,
      ⟨(some 28),(some (25,false)),(.iaddr 2 (.t 26) (.t 27))⟩,
      ⟨(some 29),(some (25,false)),(.faddr 1 (.t 28))⟩,
      ⟨(some 30),(some (25,false)),(.ld false 1 (.t 29))⟩,
      ⟨(some 31),(some (25,false)),(.bin .lss (.t 30) (.c (.int .i64 0)))⟩,
      ⟨(some 32),none,(.pick (.t 25) (.c (.bool true)) (.t 31))⟩,
      ⟨(some 33),none,(.mv (.t 32))⟩,
      ⟨(some 34),(some (33,false)),(.mv (.t 0))⟩,
      ⟨(some 35),(some (33,false)),(.mv (.t 3))⟩,
      ⟨(some 36),(some (33,false)),(.iaddr 2 (.t 34) (.t 35))⟩,
      ⟨(some 37),(some (33,false)),(.faddr 1 (.t 36))⟩,
      ⟨(some 38),(some (33,false)),(.ld false 1 (.t 37))⟩,
      ⟨(some 39),(some (33,false)),(.call 214 [(.c (.int .i64 128))])⟩,
      ⟨(some 40),(some (33,false)),(.bin .geq (.t 38) (.t 39))⟩,
      ⟨(some 41),none,(.pick (.t 33) (.c (.bool true)) (.t 40))⟩] [11,12,13,14,15,16,17,18,19,20,21,22,23,24,25,26,27,28,29,30,31,32,33,34,35,36,37,38,39,40] [[],[],[0,1],[2,1,0],[3,0,1,2],[4,2,1,0,3],[5,3,0,1,2,4],[6,4,2,1,0,3,5],[6,4,2,1,0,3,5],[7,8,6,4,2,1,0,3,5],[9,8,7,6,4,2,1,0,3,5],[10,7,8,9,6,4,2,1,0,3,5],[11,9,8,7,10,6,4,2,1,0,3,5],[12,5,3,0,1,2,4,6,10,7,8,9,11],[13,11,9,8,7,10,12,6,4,2,1,0,3,5],[14,5,3,0,1,2,4,6,12,10,7,8,9,11,13],[14,5,3,0,1,2,4,6,12,10,7,8,9,11,13],[15,16,14,5,3,0,1,2,4,6,12,10,7,8,9,11,13],[17,16,15,14,5,3,0,1,2,4,6,12,10,7,8,9,11,13],[18,15,16,17,14,5,3,0,1,2,4,6,12,10,7,8,9,11,13],[19,17,16,15,18,14,5,3,0,1,2,4,6,12,10,7,8,9,11,13],[20,13,11,9,8,7,10,12,6,4,2,1,0,3,5,14,18,15,16,17,19],[21,19,17,16,15,18,20,14,5,3,0,1,2,4,6,12,10,7,8,9,11,13],[22,13,11,9,8,7,10,12,6,4,2,1,0,3,5,14,20,18,15,16,17,19,21],[22,13,11,9,8,7,10,12,6,4,2,1,0,3,5,14,20,18,15,16,17,19,21],[23,24,22,13,11,9,8,7,10,12,6,4,2,1,0,3,5,14,20,18,15,16,17,19,21],[25,24,23,22,13,11,9,8,7,10,12,6,4,2,1,0,3,5,14,20,18,15,16,17,19,21],[26,23,24,25,22,13,11,9,8,7,10,12,6,4,2,1,0,3,5,14,20,18,15,16,17,19,21],[22,13,11,9,8,7,10,12,6,4,2,1,0,3,5,14,20,18,15,16,17,19,21],[27,25,24,23,26,28,22,13,11,9,8,7,10,12,6,4,2,1,0,3,5,14,20,18,15,16,17,19,21],[29,21,19,17,16,15,18,20,14,5,3,0,1,2,4,6,12,10,7,8,9,11,13,22,28,26,23,24,25,27]] [5120,5136,5152,5168,5184,5200,5216,5232,5248,5264,5280,5296,5312,5328,5344,5360,5376,5392,5408,5424,5440,5456,5472,5488,5504,5520,5536,5552,5568,5584,5600])
    (.cond (.t 41)
     (.seq
     (.reg [⟨(some 2),none,(.mv (.c (.bool false)))⟩] [])
     .ret)
     .skip))
    (.seq
    (.reg [⟨(some 4),none,(.mv (.c (.int .i64 0)))⟩] [])
    (.block 2
     (.loop
      (.seq
      (.seq
      (.reg [⟨(some 42),none,(.mv (.t 4))⟩,
        ⟨(some 43),none,(.mv (.t 3))⟩,
        ⟨(some 44),none,(.bin .lss (.t 42) (.t 43))⟩] [42,43])
      (.cond (.t 44)
       .skip
       (.exit 2)))
      (.seq
      (.block 3
       (.seq
       (.dreg 10240 10384 [⟨(some 47),none,(.mv (.t 0))⟩,
         ⟨(some 48),none,(.mv (.t 4))⟩,
         ⟨(some 49),none,(.iaddr 2 (.t 47) (.t 48))⟩,
         ⟨(some 50),none,(.ld true 2 (.t 49))⟩,
         ⟨(some 51),none,(.mv (.t 0))⟩,
         ⟨(some 52),none,(.mv (.t 3))⟩,
         ⟨(some 53),none,(.iaddr 2 (.t 51) (.t 52))⟩,
         ⟨(some 54),none,(.ld true 2 (.t 53))⟩,
         ⟨(some 55),none,(.eqs false [(0,.i),(1,.i)] (.t 50) (.t 54))⟩] [47,48,49,50,51,52,53,54] [[],[],[0,1],[2,1,0],[],[],[4,5],[6,5,4],[3,0,1,2,7,4,5,6]] [10240,10256,10272,10288,10304,10320,10336,10352,10368])
       (.cond (.t 55)
        (.seq
        (.reg [⟨(some 2),none,(.mv (.c (.bool false)))⟩] [])
        .ret)
        .skip)))
      (.reg [⟨(some 45),none,(.mv (.t 4))⟩,
        ⟨(some 46),none,(.bin .add (.t 45) (.c (.int .i64 1)))⟩,
        ⟨(some 4),none,(.mv (.t 46))⟩] [45,46]))))))))
   (.reg [⟨(some 9),none,(.mv (.t 3))⟩,
     ⟨(some 10),none,(.bin .add (.t 9) (.c (.int .i64 1)))⟩,
     ⟨(some 3),none,(.mv (.t 10))⟩] [9,10]))))))
 (.seq
 (.reg [⟨(some 56),none,(.mv (.t 0))⟩,
   ⟨(some 57),none,(.len (.t 56))⟩,
   ⟨(some 58),none,(.bin .geq (.t 57) (.c (.int .i64 1)))⟩,
   ⟨(some 59),none,(.mv (.t 58))⟩,
   ⟨(some 60),(some (59,true)),(.mv (.t 0))⟩,
   ⟨(some 61),(some (59,true)),(.len (.t 60))⟩,
   ⟨(some 62),(some (59,true)),(.bin .leq (.t 61) (.c (.int .i64 8)))⟩,
   ⟨(some 63),none,(.pick (.t 59) (.t 62) (.c (.bool false)))⟩,
   ⟨(some 2),none,(.mv (.t 63))⟩] [56,57,58,59,60,61,62,63])
 .ret)))
theorem bF3:cZ Go.Proofs.Tryz.prog Go.Proofs.Tryz.f111.ntmps ((Go.Proofs.Tryz.f111.body).getD .skip)=some (strip bK7):=by kernel_rfl
theorem bH7(l:List (Int×Int))(t:Bool)(hl:l.length<=100000):aM Tryz.prog 111 [] [.lst 2 t (rB l)] (.bool (aCN l)) []:=by
 refine aF [] Tryz.func111 rfl rfl (tL bF3 rfl) rfl ?_
 generalize hk:aCN l=q
 rw [aCN] at hk
 refine Wk ?_
 refine⟨Nat,λi=>i<=l.length/\bJ (aSY l) i=true,λi=>⟨[(0,⟨[],true,.lst 2 t (rB l)⟩),(3,⟨[],true,.int .i64 (i:Int)⟩)],[],0⟩,λi=>l.length-i,⟨0,⟨by simp,rfl⟩,?_⟩,λi hp=>?_⟩
 ·exact Vw []
 obtain⟨hp1,hp2⟩:=hp
 dsimp only at hp1 hp2⊢
 refine Wk ?_
 refine aC (λb1=>?_) (λb1=>?_)<;> try simp only [zD,zA,zF,zC,zG] at b1
 ·have b1:i<l.length:=by simp [bY] at b1;omega
  have hbd:aSY l i=(aXH (l.getD i (0,0))||decide (l.getD i (0,0)∈l.take i)):=rfl
  have hgt:=uS l i b1
  generalize l.getD i (0,0)=f at hbd hgt
  obtain⟨d,s⟩:=f
  rw [aXI] at hbd
  refine Wk ?_
  first |refine aB (⟨rfl,by omega,by rw [bY];omega⟩) ?_ |refine aH (λ_=>⟨rfl,by omega,by rw [bY];omega⟩) ?_ |refine⟨λ_=>⟨rfl,by omega,by rw [bY];omega⟩,?_⟩
  rw [hgt]
  refine Wk ?_
  first |refine aB (⟨rfl,by omega,by rw [bY];omega⟩) ?_ |refine aH (λ_=>⟨rfl,by omega,by rw [bY];omega⟩) ?_ |refine⟨λ_=>⟨rfl,by omega,by rw [bY];omega⟩,?_⟩
  rw [hgt]
  refine Wk ?_
  first |refine aB (⟨rfl,by omega,by rw [bY];omega⟩) ?_ |refine aH (λ_=>⟨rfl,by omega,by rw [bY];omega⟩) ?_ |refine⟨λ_=>⟨rfl,by omega,by rw [bY];omega⟩,?_⟩
  rw [hgt]
  refine Wk ?_
  first |refine aB (⟨rfl,by omega,by rw [bY];omega⟩) ?_ |refine aH (λ_=>⟨rfl,by omega,by rw [bY];omega⟩) ?_ |refine⟨λ_=>⟨rfl,by omega,by rw [bY];omega⟩,?_⟩
  rw [hgt]
  refine cC bBC ?_
  refine aC (λb2=>?_) (λb2=>?_)<;> try simp only [zD,zA,zF,zC,zG] at b2
  ·have b2:aSY l i=true:=by rw [hbd];simp at b2⊢;omega
   rw [dV b1 b2] at hk
   have hk:q=false:=by rw [<-hk];rfl
   subst hk
   refine Wk ?_
   try subst hk
   exact Lf
  have b2:(((decide (d<0)||decide (4<=d))||decide (s<0))||decide (7<=s))=false:=by simp at b2⊢;omega
  rw [b2,Bool.false_or] at hbd
  refine Wk ?_
  refine⟨Nat,λk=>k<=i/\∀j,j<k->l.getD j (0,0)≠(d,s),λk=>⟨[(0,⟨[],true,.lst 2 t (rB l)⟩),(3,⟨[],true,.int .i64 (i:Int)⟩),(4,⟨[],true,.int .i64 (k:Int)⟩)],[],0⟩,λk=>i-k,⟨0,⟨by simp,λj hj=>absurd hj (by omega)⟩,?_⟩,λk hp=>?_⟩
  ·exact Vw []
  obtain⟨hq1,hq2⟩:=hp
  dsimp only at hq1 hq2⊢
  refine Wk ?_
  refine aC (λb3=>?_) (λb3=>?_)<;> try simp only [zD,zA,zF,zC,zG] at b3
  ·have b3:k<i:=by simp at b3;omega
   have hgk:=uS l k (by omega)
   refine Wk ?_
   first |refine aB (⟨rfl,by omega,by rw [bY];omega⟩) ?_ |refine aH (λ_=>⟨rfl,by omega,by rw [bY];omega⟩) ?_ |refine⟨λ_=>⟨rfl,by omega,by rw [bY];omega⟩,?_⟩
   rw [hgk]
   refine Wk ?_
   first |refine aB (⟨rfl,by omega,by rw [bY];omega⟩) ?_ |refine aH (λ_=>⟨rfl,by omega,by rw [bY];omega⟩) ?_ |refine⟨λ_=>⟨rfl,by omega,by rw [bY];omega⟩,?_⟩
   rw [hgt]
   refine Wk ?_
   generalize hg:l.getD k (0,0)=g
   obtain⟨d2,s2⟩:=g
   refine Wk ?_
   refine aC (λb4=>?_) (λb4=>?_)<;> try simp only [zD,zA,zF,zC,zG] at b4
   ·have b4:d2=d/\s2=s:=by simpa using b4
    obtain⟨rfl,rfl⟩:=b4
    have hm:(d2,s2)∈l.take i:=by
     rw [<-hg]
     simp only [zH,show k<l.length by omega,zJ,zK]
     exact List.mem_take_iff_getElem.2 ⟨k,by omega,rfl⟩
    rw [decide_eq_true hm] at hbd
    rw [dV b1 hbd] at hk
    have hk:q=false:=by rw [<-hk];rfl
    subst hk
    refine Wk ?_
    try subst hk
    exact Lf
   have b4:¬(d2=d/\s2=s):=by simpa using b4
   refine Wk ?_
   rw [cV (by omega)]
   refine⟨k+1,⟨by show k+1<=_;omega,λj hj=>?_⟩,?_,by show i- (k+1)<i-k;omega⟩
   ·by_cases e:j=k
    ·subst e;rw [hg];intro e;cases e;exact b4 ⟨rfl,rfl⟩
    ·exact hq2 j (by omega)
   exact Vw []
  have b3:k=i:=by simp at b3;omega
  have hm:(d,s)∉l.take i:=λh=>by
   obtain⟨j,hj,e⟩:=List.mem_take_iff_getElem.1 h
   refine hq2 j (by omega) ?_
   simp only [zH,show j<l.length by omega,zJ,zK,e]
  rw [decide_eq_false hm] at hbd
  refine Wk ?_
  rw [cV (by omega)]
  refine⟨i+1,⟨by show i+1<=_;omega,by show bJ (aSY l) (i+1)=true;simp only [bJ,hp2,hbd];rfl⟩,?_,by show l.length- (i+1)<l.length-i;omega⟩
  exact Vw []
 have b1:i=l.length:=by simp [bY] at b1;omega
 subst b1
 rw [hp2,Bool.true_and] at hk
 have hk:(bif decide (1<=(l.length:Int)) then decide ((l.length:Int)<=8) else false)=q:=by rw [<-hk];cases decide (1<=(l.length:Int))<;> rfl
 rw [<-bY] at hk
 subst hk
 refine Wk ?_
 try subst hk
 exact Lf
end Go.Proofs.YtmhapcbjjpadnaaGreat
namespace Go.Proofs.YtmhapcbjjpadnaaGreat
open Go Go.Sk Go.RowKit
theorem bFC(f n:Int)(h:0<=n):((mM f (f+n)).length:Int)=n:=by rw [aF5];omega
theorem aKV:∀(s:List Int) (f:Int) (l:List Zn),1<=f/\f<=65->newR f s=some l->
 (0<=jP nW l/\f+jP nW l<=65/\jP nJ l=jP nW l)/\(∀z∈l,0<=z.size/\z.size<=100000)/\∀x,f<=x->x<f+jP nW l->∃z∈l,x∈z.free
 | [],f,l,hf,h=>by
   rw [newR] at h
   obtain rfl:=Option.some.inj h
   refine⟨⟨by simp [jP],by simp [jP];omega,rfl⟩,by simp,λx h1 h2=>?_⟩
   simp only [jP] at h2;omega
 |n::r,f,l,hf,h=>by
  rw [newR] at h
  cases hb:aCK f n with
  |true=>rw [hb] at h;cases h
  |false=>
   rw [hb,cond_false,Option.map_eq_some_iff] at h
   obtain⟨l',h1,rfl⟩:=h
   obtain⟨a1,a2,a3,a4⟩:=sY hf hb
   obtain⟨⟨b1,b2,b3⟩,b4,b5⟩:=aKV r (f+n) l' (by omega) h1
   have es:jP nW (mkZ f n::l')=n+jP nW l':=rfl
   have ef:jP nJ (mkZ f n::l')=((mM f (f+n)).length:Int)+jP nJ l':=rfl
   rw [bFC f n (by omega)] at ef
   refine⟨⟨by omega,by omega,by omega⟩,λz hz=>?_,λx h2 h3=>?_⟩
   ·rcases List.mem_cons.1 hz with rfl |hz
    ·exact⟨by show 0<=n;omega,by show n<=100000;omega⟩
    ·exact b4 z hz
   ·by_cases e:x<f+n
    ·exact⟨_,List.mem_cons_self,(aKR f (f+n) x).2 ⟨h2,e⟩⟩
    ·obtain⟨z,hz,hx⟩:=b5 x (by omega) (by omega)
     exact⟨z,List.mem_cons_of_mem _ hz,hx⟩
structure aSS(z:List Zn):Prop where
 chk:bF z=true
 num:0<=szF z/\szF z<=64
 free:aG1 z=szF z
 size:∀x∈z,0<=x.size/\x.size<=100000
 cov:∀x:Int,1<=x->x<1+szF z->∃y∈z,x∈y.free
theorem aKS {s:List Int} (h:(newF s).2=0):aSS (newF s).1:=by
 obtain⟨h1,h2,h3⟩:=aYT h
 obtain⟨⟨b1,b2,b3⟩,b4,b5⟩:=aKV s 1 _ (by decide) h3
 exact⟨h1,⟨b1,by unfold szF;omega⟩,by rw [aG1,h1];exact b3,b4,b5⟩
def bR:V:=.lst 0 true []
def aKW(p:Int×Int):List V:= [.int .i64 p.1,.int .i64 p.2,.int .i64 0,bR,.int .i64 0,.int .i64 0,.int .i64 0,.int .i64 0,.int .i64 0,.int .i64 0,.int .i64 0,.int .i64 0,.int .i64 0,.int .i64 0,.int .i64 0]
def aQV(g:List Gr)(j:Nat):Bool:=(g.getD j g0).chg != 0
def aMK(g:List Gr):Bool:=bJ (aQV g) g.length
def aVO:V:=.agg [bR,bR,bR,bR,bR,bR,bR]
def aVP(l:List (Int×Int))(z:List Zn)(g:List Gr):V:=
 .agg [.lst 15 false (l.map aKW),.lst 9 false (rC (zE (szF z).toNat fre)),.lst 6 false (aQ z),.lst 3 false (bC g),.lst 3 false (zE g.length [bR,bR,bR]),.lst 1 false (zE g.length [.int .i64 0]),bR]
def aRW(l:List (Int×Int))(s:List Int)(g:List Gr):V×Int:=
 bif !aCN l|| !rI g then(aVO,1) else bif !aMK g then(aVO,1) else bif (newF s).2 != 0 then(aVO,(newF s).2) else(aVP l (newF s).1 g,0)
theorem aRN(l:List (Int×Int))(p:Int×Int):l.map aKW++ [aKW p]=(l++ [p]).map aKW:=by simp
theorem aTO(i:Nat):rC (zE i fre)++ [fre.c]=rC (zE (i+1) fre):=by simp [rC,List.replicate_succ']
theorem aZP {α:Type} (n:Nat)(x:α):(zE n x).length=n:=List.length_replicate
theorem cA {α:Type} {n:Nat} {X Y:List α} (h:X=Y)(hn:X.length=n):List.take n (List.drop 0 X)=Y:=by
 subst hn;rw [List.drop_zero,zL];exact h
theorem qH {g:List Gr} (h:rI g=true):1<=g.length/\g.length<=4:=by
 simp only [rI,zM,decide_eq_true_eq] at h;omega
theorem aU4 {l:List (Int×Int)} (h:aCN l=true):1<=l.length/\l.length<=8:=by
 simp only [aCN,zM,decide_eq_true_eq] at h;omega
def nb:Sk.Obj:=.box [bR,bR,bR,bR,bR,bR,bR]
end Go.Proofs.YtmhapcbjjpadnaaGreat
namespace Go.Proofs.YtmhapcbjjpadnaaGreat
open Go Go.Sk Go.RowKit
theorem bK6(l:List (Int×Int))(t:Bool)(s:List Int)(t2:Bool)(g:List Gr)(t3:Bool)(hl:l.length<=100000)(hs:s.length<=100000)(hg:g.length<=100000):
 aM Tryz.prog 29 [] [.lst 2 t (rB l),.lst 1 t2 (aE s),.lst 3 t3 (bC g)] (.tup [(aRW l s g).1,.int .i64 (aRW l s g).2]) []:=by
 refine aF (ob0:= []) [] Tryz.func29 rfl rfl rfl rfl ?_
 generalize hk:aRW l s g=q
 rw [aRW] at hk
 refine Wk2 (bH7 l t hl) (aUF g t3 hg) ?_
 refine aC (λb1=>?_) (λb1=>?_)<;> try simp only [zD,zA,zF,zC,zG] at b1
 ·have b1:(!aCN l|| !rI g)=true:=by revert b1;cases aCN l <;> cases rI g <;> simp
  rw [b1,cond_true] at hk
  subst hk
  refine Wk ?_
  try subst hk
  exact Lf
 have b1':(!aCN l|| !rI g)=false:=by revert b1;cases aCN l <;> cases rI g <;> simp
 rw [b1',cond_false] at hk
 simp only [Bool.or_eq_false_iff,zC] at b1'
 obtain⟨h1,h2⟩:=b1'
 have g1:=qH h2
 have l1:=aU4 h1
 clear b1
 refine Wk ?_
 refine⟨Nat,λi=>i<=g.length/\bJ (aQV g) i=true,λi=>⟨[(0,⟨[],true,.lst 2 t (rB l)⟩),(1,⟨[],true,.lst 1 t2 (aE s)⟩),(2,⟨[],true,.lst 3 t3 (bC g)⟩),(6,⟨[],true,.ptr 0 0 0⟩),(8,⟨[],true,.int .i64 (i:Int)⟩)],[(0,nb)],1⟩,λi=>g.length-i,⟨0,⟨by simp,rfl⟩,?_⟩,λi hp=>?_⟩
 ·exact Vw [some 0]
 obtain⟨hp1,hp2⟩:=hp
 dsimp only at hp1 hp2⊢
 refine Wk ?_
 rw [aI]
 refine aC (λb2=>?_) (λb2=>?_)<;> try simp only [zD,zA,zF,zC,zG] at b2
 ·have b2:i<g.length:=by simp at b2;omega
  refine Wk ?_
  first |refine aB (⟨rfl,by omega,by rw [aI];omega⟩) ?_ |refine aH (λ_=>⟨rfl,by omega,by rw [aI];omega⟩) ?_ |refine⟨λ_=>⟨rfl,by omega,by rw [aI];omega⟩,?_⟩
  rw [fG g i b2]
  have hbd:aQV g i=((g.getD i g0).chg != 0):=rfl
  generalize g.getD i g0=f at hbd
  refine Wk ?_
  refine aC (λb3=>?_) (λb3=>?_)<;> try simp only [zD,zA,zF,zC,zG] at b3
  ·have b3:aQV g i=true:=by rw [hbd,<-b3]
   rw [show aMK g=false from dV b2 b3] at hk
   have hk:(aVO,(1:Int))=q:=hk
   subst hk
   refine Wk ?_
   try subst hk
   exact Lf
  have b3:aQV g i=false:=by rw [hbd,<-b3]
  refine Wk ?_
  rw [cV (by omega)]
  refine⟨i+1,⟨by show i+1<=_;omega,by show bJ (aQV g) (i+1)=true;simp only [bJ,hp2,b3];rfl⟩,?_,by show g.length- (i+1)<g.length-i;omega⟩
  exact Vw [some 0]
 have b2:i=g.length:=by simp at b2;omega
 subst b2
 rw [show aMK g=true from hp2] at hk
 have hk:(bif (newF s).2 != 0 then(aVO,(newF s).2) else(aVP l (newF s).1 g,0))=q:=hk
 refine cC (bH8 s t2 hs) ?_
 refine aC (λb4=>?_) (λb4=>?_)<;> try simp only [zD,zA,zF,zC,zG] at b4
 ·have b4:((newF s).2 != 0)=true:=by rw [<-b4]
  rw [b4,cond_true] at hk
  subst hk
  refine Wk ?_
  try subst hk
  exact Lf
 have b4:((newF s).2 != 0)=false:=by rw [<-b4]
 rw [b4,cond_false] at hk
 subst hk
 have hz:=aKS (s:=s) (by simpa using b4)
 generalize(newF s).1=z at hz⊢
 obtain⟨n1,n2⟩:=hz.num
 refine Wk ?_
 first |refine bG (by rw [aI];omega) (by rw [aI];omega) ?_ |refine aB ⟨by rw [aI];omega,by rw [aI];omega⟩ ?_ |refine⟨by rw [aI];omega,by rw [aI];omega,?_⟩
 refine Wk ?_
 rw [aI]
 first |refine aGW (by omega) (by omega) (by omega) (by omega) ?_ |refine aB ⟨by omega,by omega,by omega,by omega⟩ ?_ |refine⟨by omega,by omega,by omega,by omega,?_⟩
 refine Wk ?_
 rw [aI]
 first |refine aGW (by omega) (by omega) (by omega) (by omega) ?_ |refine aB ⟨by omega,by omega,by omega,by omega⟩ ?_ |refine⟨by omega,by omega,by omega,by omega,?_⟩
 refine Wk ?_
 refine⟨Nat,λi=>i<=l.length,λi=>⟨[(0,⟨[],true,.lst 2 t (rB l)⟩),(6,⟨[],true,.ptr 0 0 0⟩),(9,⟨[],true,.lst 6 false (aQ z)⟩),(11,⟨[],true,.ptr 1 0 0⟩),(12,⟨[],true,.int .i64 (i:Int)⟩)],
  [(0,nb),(1,.box [.sl 2 0 i,bR,.lst 6 false (aQ z),.lst 3 false (bC g),.lst 3 false (zE g.length [bR,bR,bR]),.lst 1 false (zE g.length [.int .i64 0]),bR]),(2,.row 15 ((l.take i).map aKW))],3⟩,λi=>l.length-i,⟨0,Nat.zero_le _,?_⟩,λi hI=>?_⟩
 ·refine bX [some 0,some ?k86_1,none] rfl rfl ?h3_86 ?h4_86 ?h5_86 ?h6_86 ?h7_86
  case' h7_86=>repeat' (first |exact trivial |rfl |exact .inl rfl |exact .inr rfl |exact id |exact(λh=>Bool.noConfusion h)|refine And.intro ?_ ?_)
  case' h4_86=>rfl
  case' h6_86=>rfl
  case' h3_86=>repeat' (first |exact trivial |rfl |exact .inl rfl |exact .inr rfl |exact id |exact(λh=>Bool.noConfusion h)|refine And.intro ?_ ?_)
  case' h5_86=>repeat' (first |exact trivial |rfl |exact .inl rfl |exact .inr rfl |exact id |exact(λh=>Bool.noConfusion h)|refine And.intro ?_ ?_)
  ·rw [aI];omega
  ·exact cA rfl (aI g)
  ·simp
  ·exact cA rfl (by simp)
  ·simp
  ·exact cA (by simp [aI]) (by simp)
 dsimp only at hI⊢
 have hlen:((l.take i).map aKW).length=i:=by rw [zI,List.length_take];omega
 refine Wk ?_
 rw [bY]
 refine aC (λb5=>?_) (λb5=>?_)<;> try simp only [zD,zA,zF,zC,zG] at b5
 ·have b5:i<l.length:=by simp at b5;omega
  refine Wk ?_
  first |refine aB (⟨rfl,by omega,by rw [bY];omega⟩) ?_ |refine aH (λ_=>⟨rfl,by omega,by rw [bY];omega⟩) ?_ |refine⟨λ_=>⟨rfl,by omega,by rw [bY];omega⟩,?_⟩
  rw [uS l i b5]
  have ht:=aCD (0,0) b5
  generalize l.getD i (0,0)=f at ht
  refine Wk ?_
  refine⟨hlen.symm,by rw [hlen];show((i+1:Nat):Int)<=_;omega,by rw [hlen];show(i+1)*136<=_;omega,?_⟩
  refine Wk ?_
  rw [cV (by omega)]
  refine⟨i+1,by show i+1<=_;omega,?_,by show l.length- (i+1)<l.length-i;omega⟩
  dsimp only
  rw [ht]
  refine bX [some 0,some 1,some 16512] rfl rfl ?_ rfl ?_ rfl ?_
  repeat' (first |exact trivial |rfl |exact .inl rfl |exact .inr rfl |exact id |exact(λh=>Bool.noConfusion h)|refine And.intro ?_ ?_)
  ·show((l.take i).map aKW).length+1=_
   rw [hlen]
  ·exact aRN _ f
 have b5:i=l.length:=by simp at b5;omega
 subst b5
 rw [zL] at hlen⊢
 refine Wk ?_
 generalize hn:(szF z).toNat=n
 have hn':szF z=(n:Int):=by omega
 refine⟨Nat,λi=>i<=n,λi=>⟨[(6,⟨[],true,.ptr 0 0 0⟩),(9,⟨[],true,.lst 6 false (aQ z)⟩),(11,⟨[],true,.ptr 1 0 0⟩),(13,⟨[],true,.int .i64 (i:Int)⟩)],
  [(0,nb),(1,.box [.lst 15 false (l.map aKW),.sl 2 0 i,.lst 6 false (aQ z),.lst 3 false (bC g),.lst 3 false (zE g.length [bR,bR,bR]),.lst 1 false (zE g.length [.int .i64 0]),bR]),(2,.row 9 (rC (zE i fre)))],3⟩,λi=>n-i,⟨0,Nat.zero_le _,?_⟩,λi hI=>?_⟩
 ·refine bX [some 0,some 1,none] rfl rfl ?_ rfl ?_ rfl ?_
  repeat' (first |exact trivial |rfl |exact .inl rfl |exact .inr rfl |exact id |exact(λh=>Bool.noConfusion h)|refine And.intro ?_ ?_)
  ·omega
  ·exact cA rfl hlen
 dsimp only at hI⊢
 have hlen2:(rC (zE i fre)).length=i:=by rw [aS8,aZP]
 refine cC (bH9 z false (nB hz.chk)) ?_
 rw [hz.free,hn']
 refine aC (λb6=>?_) (λb6=>?_)<;> try simp only [zD,zA,zF,zC,zG] at b6
 ·have b6:i<n:=by simp at b6;omega
  refine Wk ?_
  refine aB hlen2.symm (bG (by rw [hlen2];show((i+1:Nat):Int)<=_;omega) (by rw [hlen2];show(i+1)*80<=_;omega) ?_)
  refine Wk ?_
  rw [cV (by omega)]
  refine⟨i+1,by show i+1<=_;omega,?_,by show n- (i+1)<n-i;omega⟩
  dsimp only
  rw [<-aTO]
  refine bX [some 0,some 1,some 4] rfl rfl ?_ rfl ?_ rfl ?_
  repeat' (first |exact trivial |rfl |exact .inl rfl |exact .inr rfl |exact id |exact(λh=>Bool.noConfusion h)|refine And.intro ?_ ?_)
  show(rC (zE i fre)).length+1=_
  rw [hlen2]
 have b6:i=n:=by simp at b6;omega
 subst b6
 refine Wk ?_
 refine⟨[],trivial,rfl,trivial,rfl,?_⟩
 try subst hk
 repeat' (first |exact trivial |rfl |exact .inl rfl |exact .inr rfl |exact id |exact(λh=>Bool.noConfusion h)|refine And.intro ?_ ?_)
 ·omega
 ·exact cA (by rw [hn]) hlen2
end Go.Proofs.YtmhapcbjjpadnaaGreat
