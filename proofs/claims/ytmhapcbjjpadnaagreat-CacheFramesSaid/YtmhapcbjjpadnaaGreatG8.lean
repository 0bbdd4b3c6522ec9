/- Caches. -/
import Derived.Test.YtmhapcbjjpadnaaGreatG7
import Derived.Test.YtmhapcbjjpadnaaGreatG6
import Derived.Test.YtmhapcbjjpadnaaGreatG3
import Derived.Test.YtmhapcbjjpadnaaGreatK7
import Derived.Test.YtmhapcbjjpadnaaGreatG4
import Derived.Test.YtmhapcbjjpadnaaGreatG2
set_option linter.unusedSimpArgs false
set_option linter.unusedVariables false
open Bool renaming cond_false_right→zA,not_eq_false'→zC,cond_true_left→zD,not_eq_true'→zF,not_not→zG,and_eq_true→zM
open List renaming replicate→zE,getD_eq_getElem?_getD→zH,length_map→zI,getElem?_eq_getElem→zJ,take_length→zL
open Option renaming getD_some→zK
set_option maxRecDepth 40000
namespace Go.Proofs.YtmhapcbjjpadnaaGreat
open Go Go.Sk Go.RowKit
structure Tr where
 h:Int
 ks:List (List V)
 v:Int
 m:Int
def Tr.c(t:Tr):List V:= [.int .i64 t.h,.lst 3 false t.ks,.int .i64 t.v,.int .i64 t.m]
structure Fl where
 dev:Int
 slot:Int
 tr:Tr
 size:Int
 blocks:Int
 ec:Int
 ee:Int
 sq:Int
 ss:Int
 sb:Int
 wh:Int
 seq:Int
def Fl.c(f:Fl):List V:= [.int .i64 f.dev,.int .i64 f.slot,.int .i64 f.tr.h,.lst 3 false f.tr.ks,.int .i64 f.tr.v,.int .i64 f.tr.m,.int .i64 f.size,.int .i64 f.blocks,.int .i64 f.ec,.int .i64 f.ee,.int .i64 f.sq,.int .i64 f.ss,.int .i64 f.sb,.int .i64 f.wh,.int .i64 f.seq]
structure Fr where
 file:Int
 page:Int
 data:ByteArray
 valid:Int
 dirty:Int
 ten:Int
 holds:Int
 rd:Int
 wr:Int
def Fr.c(f:Fr):List V:= [.int .i64 f.file,.int .i64 f.page,.str f.data,.int .i64 f.valid,.int .i64 f.dirty,.int .i64 f.ten,.int .i64 f.holds,.int .i64 f.rd,.int .i64 f.wr]
structure Pt where
 proc:Int
 page:Int
 frame:Int
 wr:Bool
 acc:Bool
def Pt.c(p:Pt):List V:= [.int .i64 p.proc,.int .i64 p.page,.int .i64 p.frame,.bool p.wr,.bool p.acc]
def bAL(L:List Fl):List (List V):=L.map Fl.c
def pX(L:List Fr):List (List V):=L.map Fr.c
def aX(L:List Pt):List (List V):=L.map Pt.c
def bZ(L:List Ls):List (List V):=L.map Ls.c
structure Ca where
 fl:List Fl
 fr:List Fr
 zo:List Zn
 gr:List Gr
 ls:List Ls
 ck:List Int
 pt:List Pt
def Ca.c(c:Ca):List V:= [.lst 15 false (bAL c.fl),.lst 9 false (pX c.fr),.lst 6 false (aP c.zo),.lst 3 false (bE c.gr),.lst 3 false (bZ c.ls),.lst 1 false (aE c.ck),.lst 5 false (aX c.pt)]
theorem bEN {α:Type} (f:α→List V)(L:List α)(k:Nat)(d:α)(h:k<L.length):(L.map f).getD ((k:Int)).toNat []=f (L.getD k d):=by
 rw [Int.toNat_natCast]
 simp [zH,h]
theorem bBR {α:Type} (f:α→List V)(L:List α)(k:Nat)(x:α):(L.map f).set k (f x)=(L.set k x).map f:=by rw [List.map_set]
def emT:Tr:=⟨0,[],0,0⟩
def f0:Fl:=⟨0,0,emT,0,0,0,0,0,0,0,0,0⟩
def noD:ByteArray:=⟨#[]⟩
def fre:Fr:=⟨-1,0,noD,0,0,0,0,0,0⟩
def l0:Ls:=⟨[],[],[]⟩
def p0:Pt:=⟨0,0,0,false,false⟩
theorem aQO(L:List Fr):(pX L).length=L.length:=zI _
theorem aS(L:List Pt):(aX L).length=L.length:=zI _
theorem bQ(L:List Ls):(bZ L).length=L.length:=zI _
theorem tQ(L:List Pt)(k:Nat)(h:k<L.length):(aX L).getD ((k:Int)).toNat []=(L.getD k p0).c:=bEN _ L k _ h
theorem aMH(L:List Ls)(k:Nat)(h:k<L.length):(bZ L).getD ((k:Int)).toNat []=(L.getD k l0).c:=bEN _ L k _ h
theorem oF(L:List Ls)(k:Nat)(x:Ls):(bZ L).set k x.c=bZ (L.set k x):=bBR Ls.c L k x
theorem aQM(L:List Gr)(k:Nat)(x:Gr):(bE L).set k x.c=bE (L.set k x):=bBR Gr.c L k x
theorem aFS(L:List Pt)(k:Nat)(x:Pt):(aX L).set k x.c=aX (L.set k x):=bBR Pt.c L k x
theorem dG {i:Nat} (h:i≤1000000000):IntKind.i64.wrap ((i:Int)+1)=((i+1:Nat):Int):=by rw [aO (by omega) (by omega)];omega
theorem aBF {α:Type} {l:List α} {i:Nat} (d:α)(h:i<l.length):l.take (i+1)=l.take i++ [l.getD i d]:=by
 rw [List.take_succ_eq_append_getElem h];simp [zH,h]
end Go.Proofs.YtmhapcbjjpadnaaGreat
set_option maxRecDepth 40000
namespace Go.Proofs.YtmhapcbjjpadnaaGreat
open Go Go.Sk Go.RowKit
def mM(z:Zn):Int:=z.size
def szF(l:List Zn):Int:=jD mM l
def plc(f:Fl):Int×Int:=(f.dev,f.slot)
end Go.Proofs.YtmhapcbjjpadnaaGreat
set_option maxRecDepth 40000
namespace Go.Proofs.YtmhapcbjjpadnaaGreat
open Go Go.Sk Go.RowKit
theorem aZI:aN Tryz.prog 214 [] [.int .i64 128] (.int .i64 7) []:=by
 refine aF (ob0:= []) [] Tryz.func214 rfl rfl rfl rfl ?_
 refine Wk ?_
 try subst hk
 exact Lf
theorem aVP {d s:Int} :aVO (d,s)=(((decide (d<0)||decide (4≤d))||decide (s<0))||decide (7≤s)):=by
 unfold aVO aUO
 by_cases h1:s<0 <;> by_cases h2:7≤s <;> simp [h1,h2] <;> omega
def bHJ:RC:=
 (.seq
 (.reg [⟨(some 2),none,(.mv (.c (.bool false)))⟩] [])
 (.seq
 (.seq
 (.reg [⟨(some 3),none,(.mv (.c (.int .i64 0)))⟩] [])
 (.block 0
  (.loop
   (.seq
   (.seq
   (.reg [⟨(some 5),none,(.mv (.t 3))⟩,
     ⟨(some 6),none,(.mv (.t 0))⟩,
     ⟨(some 7),none,(.len (.t 6))⟩,
     ⟨(some 8),none,(.bin .lss (.t 5) (.t 7))⟩] [5,6,7])
   (.cond (.t 8)
    .skip
    (.exit 0)))
   (.seq
   (.block 1
    (.seq
    (.seq
    (.dreg 5120 5616 [⟨(some 11),none,(.mv (.t 0))⟩,
      ⟨(some 12),none,(.mv (.t 3))⟩,
      ⟨(some 13),none,(.iaddr 2 (.t 11) (.t 12))⟩,
      ⟨(some 14),none,(.faddr 0 (.t 13))⟩,
      ⟨(some 15),none,(.ld false 1 (.t 14))⟩,
      ⟨(some 16),none,(.bin .lss (.t 15) (.c (.int .i64 0)))⟩,
      ⟨(some 17),none,(.mv (.t 16))⟩,
      ⟨(some 18),(some (17,false)),(.mv (.t 0))⟩,
      ⟨(some 19),(some (17,false)),(.mv (.t 3))⟩,
      ⟨(some 20),(some (17,false)),(.iaddr 2 (.t 18) (.t 19))⟩,
      ⟨(some 21),(some (17,false)),(.faddr 0 (.t 20))⟩,
      ⟨(some 22),(some (17,false)),(.ld false 1 (.t 21))⟩,
      ⟨(some 23),(some (17,false)),(.bin .geq (.t 22) (.c (.int .i64 4)))⟩,
      ⟨(some 24),none,(.pick (.t 17) (.c (.bool true)) (.t 23))⟩,
      ⟨(some 25),none,(.mv (.t 24))⟩,
      ⟨(some 26),(some (25,false)),(.mv (.t 0))⟩,
      ⟨(some 27),(some (25,false)),(.mv (.t 3))⟩,
      ⟨(some 28),(some (25,false)),(.iaddr 2 (.t 26) (.t 27))⟩,
      ⟨(some 29),(some (25,false)),(.faddr 1 (.t 28))⟩,
      ⟨(some 30),(some (25,false)),(.ld false 1 (.t 29))⟩,
      ⟨(some 31),(some (25,false)),(.bin .lss (.t 30) (.c (.int .i64 0)))⟩,
      ⟨(some 32),none,(.pick (.t 25) (.c (.bool true)) (.t 31))⟩,
      ⟨(some 33),none,(.mv (.t 32))⟩,
      ⟨(some 34),(some (33,false)),(.mv (.t 0))⟩,
      ⟨(some 35),(some (33,false)),(.mv (.t 3))⟩,
      ⟨(some 36),(some (33,false)),(.iaddr 2 (.t 34) (.t 35))⟩,
      ⟨(some 37),(some (33,false)),(.faddr 1 (.t 36))⟩,
      ⟨(some 38),(some (33,false)),(.ld false 1 (.t 37))⟩,
      ⟨(some 39),(some (33,false)),(.call 214 [(.c (.int .i64 128))])⟩,
      ⟨(some 40),(some (33,false)),(.bin .geq (.t 38) (.t 39))⟩,
      ⟨(some 41),none,(.pick (.t 33) (.c (.bool true)) (.t 40))⟩] [11,12,13,14,15,16,17,18,19,20,21,22,23,24,25,26,27,28,29,30,31,32,33,34,35,36,37,38,39,40] [[],[],[0,1],[2,1,0],[3,0,1,2],[4,2,1,0,3],[5,3,0,1,2,4],[6,4,2,1,0,3,5],[6,4,2,1,0,3,5],[7,8,6,4,2,1,0,3,5],[9,8,7,6,4,2,1,0,3,5],[10,7,8,9,6,4,2,1,0,3,5],[11,9,8,7,10,6,4,2,1,0,3,5],[12,5,3,0,1,2,4,6,10,7,8,9,11],[13,11,9,8,7,10,12,6,4,2,1,0,3,5],[14,5,3,0,1,2,4,6,12,10,7,8,9,11,13],[14,5,3,0,1,2,4,6,12,10,7,8,9,11,13],[15,16,14,5,3,0,1,2,4,6,12,10,7,8,9,11,13],[17,16,15,14,5,3,0,1,2,4,6,12,10,7,8,9,11,13],[18,15,16,17,14,5,3,0,1,2,4,6,12,10,7,8,9,11,13],[19,17,16,15,18,14,5,3,0,1,2,4,6,12,10,7,8,9,11,13],[20,13,11,9,8,7,10,12,6,4,2,1,0,3,5,14,18,15,16,17,19],[21,19,17,16,15,18,20,14,5,3,0,1,2,4,6,12,10,7,8,9,11,13],[22,13,11,9,8,7,10,12,6,4,2,1,0,3,5,14,20,18,15,16,17,19,21],[22,13,11,9,8,7,10,12,6,4,2,1,0,3,5,14,20,18,15,16,17,19,21],[23,24,22,13,11,9,8,7,10,12,6,4,2,1,0,3,5,14,20,18,15,16,17,19,21],[25,24,23,22,13,11,9,8,7,10,12,6,4,2,1,0,3,5,14,20,18,15,16,17,19,21],[26,23,24,25,22,13,11,9,8,7,10,12,6,4,2,1,0,3,5,14,20,18,15,16,17,19,21],[22,13,11,9,8,7,10,12,6,4,2,1,0,3,5,14,20,18,15,16,17,19,21],[27,25,24,23,26,28,22,13,11,9,8,7,10,12,6,4,2,1,0,3,5,14,20,18,15,16,17,19,21],[29,21,19,17,16,15,18,20,14,5,3,0,1,2,4,6,12,10,7,8,9,11,13,22,28,26,23,24,25,27]] [5120,5136,5152,5168,5184,5200,5216,5232,5248,5264,5280,5296,5312,5328,5344,5360,5376,5392,5408,5424,5440,5456,5472,5488,5504,5520,5536,5552,5568,5584,5600])
    (.cond (.t 41)
     (.seq
     (.reg [⟨(some 2),none,(.mv (.c (.bool false)))⟩] [])
     .ret)
     .skip))
    (.seq
    (.reg [⟨(some 4),none,(.mv (.c (.int .i64 0)))⟩] [])
    (.block 2
     (.loop
      (.seq
      (.seq
      (.reg [⟨(some 42),none,(.mv (.t 4))⟩,
        ⟨(some 43),none,(.mv (.t 3))⟩,
        ⟨(some 44),none,(.bin .lss (.t 42) (.t 43))⟩] [42,43])
      (.cond (.t 44)
       .skip
       (.exit 2)))
      (.seq
      (.block 3
       (.seq
       (.dreg 10240 10384 [⟨(some 47),none,(.mv (.t 0))⟩,
         ⟨(some 48),none,(.mv (.t 4))⟩,
         ⟨(some 49),none,(.iaddr 2 (.t 47) (.t 48))⟩,
         ⟨(some 50),none,(.ld true 2 (.t 49))⟩,
         ⟨(some 51),none,(.mv (.t 0))⟩,
         ⟨(some 52),none,(.mv (.t 3))⟩,
         ⟨(some 53),none,(.iaddr 2 (.t 51) (.t 52))⟩,
         ⟨(some 54),none,(.ld true 2 (.t 53))⟩,
         ⟨(some 55),none,(.eqs false [(0,.i),(1,.i)] (.t 50) (.t 54))⟩] [47,48,49,50,51,52,53,54] [[],[],[0,1],[2,1,0],[],[],[4,5],[6,5,4],[3,0,1,2,7,4,5,6]] [10240,10256,10272,10288,10304,10320,10336,10352,10368])
       (.cond (.t 55)
        (.seq
        (.reg [⟨(some 2),none,(.mv (.c (.bool false)))⟩] [])
        .ret)
        .skip)))
      (.reg [⟨(some 45),none,(.mv (.t 4))⟩,
        ⟨(some 46),none,(.bin .add (.t 45) (.c (.int .i64 1)))⟩,
        ⟨(some 4),none,(.mv (.t 46))⟩] [45,46]))))))))
   (.reg [⟨(some 9),none,(.mv (.t 3))⟩,
     ⟨(some 10),none,(.bin .add (.t 9) (.c (.int .i64 1)))⟩,
     ⟨(some 3),none,(.mv (.t 10))⟩] [9,10]))))))
 (.seq
 (.reg [⟨(some 56),none,(.mv (.t 0))⟩,
   ⟨(some 57),none,(.len (.t 56))⟩,
   ⟨(some 58),none,(.bin .geq (.t 57) (.c (.int .i64 1)))⟩,
   ⟨(some 59),none,(.mv (.t 58))⟩,
   ⟨(some 60),(some (59,true)),(.mv (.t 0))⟩,
   ⟨(some 61),(some (59,true)),(.len (.t 60))⟩,
   ⟨(some 62),(some (59,true)),(.bin .leq (.t 61) (.c (.int .i64 8)))⟩,
   ⟨(some 63),none,(.pick (.t 59) (.t 62) (.c (.bool false)))⟩,
   ⟨(some 2),none,(.mv (.t 63))⟩] [56,57,58,59,60,61,62,63])
 .ret)))
theorem bCX:cT Go.Proofs.Tryz.prog Go.Proofs.Tryz.f111.ntmps ((Go.Proofs.Tryz.f111.body).getD .skip)=some (strip bHJ):=by kernel_rfl
set_option maxRecDepth 20000 in
set_option maxHeartbeats 1000000 in
theorem bEV(l:List (Int×Int))(t:Bool)(hl:l.length≤100000):aN Tryz.prog 111 [] [.lst 2 t (pW l)] (.bool (aBQ l)) []:=by
 refine aF [] Tryz.func111 rfl rfl (aCB bCX rfl) rfl ?_
 generalize hk:aBQ l=q
 rw [aBQ] at hk
 refine Wk ?_
 refine⟨Nat,fun i=>i≤l.length∧bD (aRD l) i=true,fun i=>⟨[(0,⟨[],true,.lst 2 t (pW l)⟩),(3,⟨[],true,.int .i64 (i:Int)⟩)],[],0⟩,fun i=>l.length-i,⟨0,⟨by simp,rfl⟩,?_⟩,fun i hp=>?_⟩
 ·exact Vw []
 obtain⟨hp1,hp2⟩:=hp
 dsimp only at hp1 hp2⊢
 refine Wk ?_
 refine aC (fun b1=>?_) (fun b1=>?_)<;> try simp only [zD,zA,zF,zC,zG] at b1
 ·have b1:i<l.length:=by simp [bU] at b1;omega
  have hbd:aRD l i=(aVO (l.getD i (0,0))||decide (l.getD i (0,0)∈l.take i)):=rfl
  have hgt:=tP l i b1
  generalize l.getD i (0,0)=f at hbd hgt
  obtain⟨d,s⟩:=f
  rw [aVP] at hbd
  refine Wk ?_
  first |refine aB (⟨rfl,by omega,by rw [bU];omega⟩) ?_ |refine aH (fun _=>⟨rfl,by omega,by rw [bU];omega⟩) ?_ |refine⟨fun _=>⟨rfl,by omega,by rw [bU];omega⟩,?_⟩
  rw [hgt]
  refine Wk ?_
  first |refine aB (⟨rfl,by omega,by rw [bU];omega⟩) ?_ |refine aH (fun _=>⟨rfl,by omega,by rw [bU];omega⟩) ?_ |refine⟨fun _=>⟨rfl,by omega,by rw [bU];omega⟩,?_⟩
  rw [hgt]
  refine Wk ?_
  first |refine aB (⟨rfl,by omega,by rw [bU];omega⟩) ?_ |refine aH (fun _=>⟨rfl,by omega,by rw [bU];omega⟩) ?_ |refine⟨fun _=>⟨rfl,by omega,by rw [bU];omega⟩,?_⟩
  rw [hgt]
  refine Wk ?_
  first |refine aB (⟨rfl,by omega,by rw [bU];omega⟩) ?_ |refine aH (fun _=>⟨rfl,by omega,by rw [bU];omega⟩) ?_ |refine⟨fun _=>⟨rfl,by omega,by rw [bU];omega⟩,?_⟩
  rw [hgt]
  refine cC aZI ?_
  refine aC (fun b2=>?_) (fun b2=>?_)<;> try simp only [zD,zA,zF,zC,zG] at b2
  ·have b2:aRD l i=true:=by rw [hbd];simp at b2⊢;omega
   rw [dK b1 b2] at hk
   have hk:q=false:=by rw [←hk];rfl
   subst hk
   refine Wk ?_
   try subst hk
   exact Lf
  have b2:(((decide (d<0)||decide (4≤d))||decide (s<0))||decide (7≤s))=false:=by simp at b2⊢;omega
  rw [b2,Bool.false_or] at hbd
  refine Wk ?_
  refine⟨Nat,fun k=>k≤i∧∀j,j<k→l.getD j (0,0)≠(d,s),fun k=>⟨[(0,⟨[],true,.lst 2 t (pW l)⟩),(3,⟨[],true,.int .i64 (i:Int)⟩),(4,⟨[],true,.int .i64 (k:Int)⟩)],[],0⟩,fun k=>i-k,⟨0,⟨by simp,fun j hj=>absurd hj (by omega)⟩,?_⟩,fun k hp=>?_⟩
  ·exact Vw []
  obtain⟨hq1,hq2⟩:=hp
  dsimp only at hq1 hq2⊢
  refine Wk ?_
  refine aC (fun b3=>?_) (fun b3=>?_)<;> try simp only [zD,zA,zF,zC,zG] at b3
  ·have b3:k<i:=by simp at b3;omega
   have hgk:=tP l k (by omega)
   refine Wk ?_
   first |refine aB (⟨rfl,by omega,by rw [bU];omega⟩) ?_ |refine aH (fun _=>⟨rfl,by omega,by rw [bU];omega⟩) ?_ |refine⟨fun _=>⟨rfl,by omega,by rw [bU];omega⟩,?_⟩
   rw [hgk]
   refine Wk ?_
   first |refine aB (⟨rfl,by omega,by rw [bU];omega⟩) ?_ |refine aH (fun _=>⟨rfl,by omega,by rw [bU];omega⟩) ?_ |refine⟨fun _=>⟨rfl,by omega,by rw [bU];omega⟩,?_⟩
   rw [hgt]
   refine Wk ?_
   generalize hg:l.getD k (0,0)=g
   obtain⟨d2,s2⟩:=g
   refine Wk ?_
   refine aC (fun b4=>?_) (fun b4=>?_)<;> try simp only [zD,zA,zF,zC,zG] at b4
   ·have b4:d2=d∧s2=s:=by simpa using b4
    obtain⟨rfl,rfl⟩:=b4
    have hm:(d2,s2)∈l.take i:=by
     rw [←hg]
     simp only [zH,show k<l.length by omega,zJ,zK]
     exact List.mem_take_iff_getElem.2 ⟨k,by omega,rfl⟩
    rw [decide_eq_true hm] at hbd
    rw [dK b1 hbd] at hk
    have hk:q=false:=by rw [←hk];rfl
    subst hk
    refine Wk ?_
    try subst hk
    exact Lf
   have b4:¬(d2=d∧s2=s):=by simpa using b4
   refine Wk ?_
   rw [dG (by omega)]
   refine⟨k+1,⟨by show k+1≤_;omega,fun j hj=>?_⟩,?_,by show i- (k+1)<i-k;omega⟩
   ·by_cases e:j=k
    ·subst e;rw [hg];intro e;cases e;exact b4 ⟨rfl,rfl⟩
    ·exact hq2 j (by omega)
   exact Vw []
  have b3:k=i:=by simp at b3;omega
  have hm:(d,s)∉l.take i:=fun h=>by
   obtain⟨j,hj,e⟩:=List.mem_take_iff_getElem.1 h
   refine hq2 j (by omega) ?_
   simp only [zH,show j<l.length by omega,zJ,zK,e]
  rw [decide_eq_false hm] at hbd
  refine Wk ?_
  rw [dG (by omega)]
  refine⟨i+1,⟨by show i+1≤_;omega,by show bD (aRD l) (i+1)=true;simp only [bD,hp2,hbd];rfl⟩,?_,by show l.length- (i+1)<l.length-i;omega⟩
  exact Vw []
 have b1:i=l.length:=by simp [bU] at b1;omega
 subst b1
 rw [hp2,Bool.true_and] at hk
 have hk:(bif decide (1≤(l.length:Int)) then decide ((l.length:Int)≤8) else false)=q:=by rw [←hk];cases decide (1≤(l.length:Int))<;> rfl
 rw [←bU] at hk
 subst hk
 refine Wk ?_
 try subst hk
 exact Lf
end Go.Proofs.YtmhapcbjjpadnaaGreat
set_option maxRecDepth 40000
namespace Go.Proofs.YtmhapcbjjpadnaaGreat
open Go Go.Sk Go.RowKit
theorem bD7(f n:Int)(h:0≤n):((lM f (f+n)).length:Int)=n:=by rw [aE6];omega
theorem aJQ:∀(s:List Int) (f:Int) (l:List Zn),1≤f∧f≤65→newR f s=some l→
 (0≤jD mM l∧f+jD mM l≤65∧jD mD l=jD mM l)∧(∀z∈l,0≤z.size∧z.size≤100000)∧∀x,f≤x→x<f+jD mM l→∃z∈l,x∈z.free
 | [],f,l,hf,h=>by
   rw [newR] at h
   obtain rfl:=Option.some.inj h
   refine⟨⟨by simp [jD],by simp [jD];omega,rfl⟩,by simp,fun x h1 h2=>?_⟩
   simp only [jD] at h2;omega
 |n::r,f,l,hf,h=>by
  rw [newR] at h
  cases hb:aBN f n with
  |true=>rw [hb] at h;cases h
  |false=>
   rw [hb,cond_false,Option.map_eq_some_iff] at h
   obtain⟨l',h1,rfl⟩:=h
   obtain⟨a1,a2,a3,a4⟩:=rS hf hb
   obtain⟨⟨b1,b2,b3⟩,b4,b5⟩:=aJQ r (f+n) l' (by omega) h1
   have es:jD mM (mkZ f n::l')=n+jD mM l':=rfl
   have ef:jD mD (mkZ f n::l')=((lM f (f+n)).length:Int)+jD mD l':=rfl
   rw [bD7 f n (by omega)] at ef
   refine⟨⟨by omega,by omega,by omega⟩,fun z hz=>?_,fun x h2 h3=>?_⟩
   ·rcases List.mem_cons.1 hz with rfl |hz
    ·exact⟨by show 0≤n;omega,by show n≤100000;omega⟩
    ·exact b4 z hz
   ·by_cases e:x<f+n
    ·exact⟨_,List.mem_cons_self,(aJN f (f+n) x).2 ⟨h2,e⟩⟩
    ·obtain⟨z,hz,hx⟩:=b5 x (by omega) (by omega)
     exact⟨z,List.mem_cons_of_mem _ hz,hx⟩
structure aR7(z:List Zn):Prop where
 chk:bB z=true
 num:0≤szF z∧szF z≤64
 free:aF3 z=szF z
 size:∀x∈z,0≤x.size∧x.size≤100000
 cov:∀x:Int,1≤x→x<1+szF z→∃y∈z,x∈y.free
theorem aJO {s:List Int} (h:(newF s).2=0):aR7 (newF s).1:=by
 obtain⟨h1,h2,h3⟩:=aX0 h
 obtain⟨⟨b1,b2,b3⟩,b4,b5⟩:=aJQ s 1 _ (by decide) h3
 exact⟨h1,⟨b1,by unfold szF;omega⟩,by rw [aF3,h1];exact b3,b4,b5⟩
def bP:V:=.lst 0 true []
def aJR(p:Int×Int):List V:= [.int .i64 p.1,.int .i64 p.2,.int .i64 0,bP,.int .i64 0,.int .i64 0,.int .i64 0,.int .i64 0,.int .i64 0,.int .i64 0,.int .i64 0,.int .i64 0,.int .i64 0,.int .i64 0,.int .i64 0]
def aPA(g:List Gr)(j:Nat):Bool:=(g.getD j g0).chg != 0
def aLC(g:List Gr):Bool:=bD (aPA g) g.length
def aU4:V:=.agg [bP,bP,bP,bP,bP,bP,bP]
def aU5(l:List (Int×Int))(z:List Zn)(g:List Gr):V:=
 .agg [.lst 15 false (l.map aJR),.lst 9 false (pX (zE (szF z).toNat fre)),.lst 6 false (aP z),.lst 3 false (bE g),.lst 3 false (zE g.length [bP,bP,bP]),.lst 1 false (zE g.length [.int .i64 0]),bP]
def aQB(l:List (Int×Int))(s:List Int)(g:List Gr):V×Int:=
 bif !aBQ l|| !qE g then(aU4,1) else bif !aLC g then(aU4,1) else bif (newF s).2 != 0 then(aU4,(newF s).2) else(aU5 l (newF s).1 g,0)
theorem aQ1(l:List (Int×Int))(p:Int×Int):l.map aJR++ [aJR p]=(l++ [p]).map aJR:=by simp
theorem aS4(i:Nat):pX (zE i fre)++ [fre.c]=pX (zE (i+1) fre):=by simp [pX,List.replicate_succ']
theorem aXS {α:Type} (n:Nat)(x:α):(zE n x).length=n:=List.length_replicate
theorem bW {α:Type} {n:Nat} {X Y:List α} (h:X=Y)(hn:X.length=n):List.take n (List.drop 0 X)=Y:=by
 subst hn;rw [List.drop_zero,zL];exact h
theorem oV {g:List Gr} (h:qE g=true):1≤g.length∧g.length≤4:=by
 simp only [qE,zM,decide_eq_true_eq] at h;omega
theorem aSQ {l:List (Int×Int)} (h:aBQ l=true):1≤l.length∧l.length≤8:=by
 simp only [aBQ,zM,decide_eq_true_eq] at h;omega
def nb:Sk.Obj:=.box [bP,bP,bP,bP,bP,bP,bP]
end Go.Proofs.YtmhapcbjjpadnaaGreat
set_option maxRecDepth 40000
namespace Go.Proofs.YtmhapcbjjpadnaaGreat
open Go Go.Sk Go.RowKit
set_option maxRecDepth 20000 in
set_option maxHeartbeats 2000000 in
theorem bHI(l:List (Int×Int))(t:Bool)(s:List Int)(t2:Bool)(g:List Gr)(t3:Bool)(hl:l.length≤100000)(hs:s.length≤100000)(hg:g.length≤100000):
 aN Tryz.prog 29 [] [.lst 2 t (pW l),.lst 1 t2 (aE s),.lst 3 t3 (bE g)] (.tup [(aQB l s g).1,.int .i64 (aQB l s g).2]) []:=by
 refine aF (ob0:= []) [] Tryz.func29 rfl rfl rfl rfl ?_
 generalize hk:aQB l s g=q
 rw [aQB] at hk
 refine vJ (bEV l t hl) (aT0 g t3 hg) ?_
 refine aC (fun b1=>?_) (fun b1=>?_)<;> try simp only [zD,zA,zF,zC,zG] at b1
 ·have b1:(!aBQ l|| !qE g)=true:=by revert b1;cases aBQ l <;> cases qE g <;> simp
  rw [b1,cond_true] at hk
  subst hk
  refine Wk ?_
  try subst hk
  exact Lf
 have b1':(!aBQ l|| !qE g)=false:=by revert b1;cases aBQ l <;> cases qE g <;> simp
 rw [b1',cond_false] at hk
 simp only [Bool.or_eq_false_iff,zC] at b1'
 obtain⟨h1,h2⟩:=b1'
 have g1:=oV h2
 have l1:=aSQ h1
 clear b1
 refine Wk ?_
 refine⟨Nat,fun i=>i≤g.length∧bD (aPA g) i=true,fun i=>⟨[(0,⟨[],true,.lst 2 t (pW l)⟩),(1,⟨[],true,.lst 1 t2 (aE s)⟩),(2,⟨[],true,.lst 3 t3 (bE g)⟩),(6,⟨[],true,.ptr 0 0 0⟩),(8,⟨[],true,.int .i64 (i:Int)⟩)],[(0,nb)],1⟩,fun i=>g.length-i,⟨0,⟨by simp,rfl⟩,?_⟩,fun i hp=>?_⟩
 ·exact Vw [some 0]
 obtain⟨hp1,hp2⟩:=hp
 dsimp only at hp1 hp2⊢
 refine Wk ?_
 rw [aI]
 refine aC (fun b2=>?_) (fun b2=>?_)<;> try simp only [zD,zA,zF,zC,zG] at b2
 ·have b2:i<g.length:=by simp at b2;omega
  refine Wk ?_
  first |refine aB (⟨rfl,by omega,by rw [aI];omega⟩) ?_ |refine aH (fun _=>⟨rfl,by omega,by rw [aI];omega⟩) ?_ |refine⟨fun _=>⟨rfl,by omega,by rw [aI];omega⟩,?_⟩
  rw [eW g i b2]
  have hbd:aPA g i=((g.getD i g0).chg != 0):=rfl
  generalize g.getD i g0=f at hbd
  refine Wk ?_
  refine aC (fun b3=>?_) (fun b3=>?_)<;> try simp only [zD,zA,zF,zC,zG] at b3
  ·have b3:aPA g i=true:=by rw [hbd,←b3]
   rw [show aLC g=false from dK b2 b3] at hk
   have hk:(aU4,(1:Int))=q:=hk
   subst hk
   refine Wk ?_
   try subst hk
   exact Lf
  have b3:aPA g i=false:=by rw [hbd,←b3]
  refine Wk ?_
  rw [dG (by omega)]
  refine⟨i+1,⟨by show i+1≤_;omega,by show bD (aPA g) (i+1)=true;simp only [bD,hp2,b3];rfl⟩,?_,by show g.length- (i+1)<g.length-i;omega⟩
  exact Vw [some 0]
 have b2:i=g.length:=by simp at b2;omega
 subst b2
 rw [show aLC g=true from hp2] at hk
 have hk:(bif (newF s).2 != 0 then(aU4,(newF s).2) else(aU5 l (newF s).1 g,0))=q:=hk
 refine cC (bEW s t2 hs) ?_
 refine aC (fun b4=>?_) (fun b4=>?_)<;> try simp only [zD,zA,zF,zC,zG] at b4
 ·have b4:((newF s).2 != 0)=true:=by rw [←b4]
  rw [b4,cond_true] at hk
  subst hk
  refine Wk ?_
  try subst hk
  exact Lf
 have b4:((newF s).2 != 0)=false:=by rw [←b4]
 rw [b4,cond_false] at hk
 subst hk
 have hz:=aJO (s:=s) (by simpa using b4)
 generalize(newF s).1=z at hz⊢
 obtain⟨n1,n2⟩:=hz.num
 refine Wk ?_
 first |refine bA (by rw [aI];omega) (by rw [aI];omega) ?_ |refine aB ⟨by rw [aI];omega,by rw [aI];omega⟩ ?_ |refine⟨by rw [aI];omega,by rw [aI];omega,?_⟩
 refine Wk ?_
 rw [aI]
 first |refine aFU (by omega) (by omega) (by omega) (by omega) ?_ |refine aB ⟨by omega,by omega,by omega,by omega⟩ ?_ |refine⟨by omega,by omega,by omega,by omega,?_⟩
 refine Wk ?_
 rw [aI]
 first |refine aFU (by omega) (by omega) (by omega) (by omega) ?_ |refine aB ⟨by omega,by omega,by omega,by omega⟩ ?_ |refine⟨by omega,by omega,by omega,by omega,?_⟩
 refine Wk ?_
 refine⟨Nat,fun i=>i≤l.length,fun i=>⟨[(0,⟨[],true,.lst 2 t (pW l)⟩),(6,⟨[],true,.ptr 0 0 0⟩),(9,⟨[],true,.lst 6 false (aP z)⟩),(11,⟨[],true,.ptr 1 0 0⟩),(12,⟨[],true,.int .i64 (i:Int)⟩)],
  [(0,nb),(1,.box [.sl 2 0 i,bP,.lst 6 false (aP z),.lst 3 false (bE g),.lst 3 false (zE g.length [bP,bP,bP]),.lst 1 false (zE g.length [.int .i64 0]),bP]),(2,.row 15 ((l.take i).map aJR))],3⟩,fun i=>l.length-i,⟨0,Nat.zero_le _,?_⟩,fun i hI=>?_⟩
 ·refine bT [some 0,some ?k86_1,none] rfl rfl ?h3_86 ?h4_86 ?h5_86 ?h6_86 ?h7_86
  case' h7_86=>repeat' (first |exact trivial |rfl |exact .inl rfl |exact .inr rfl |exact id |exact(fun h=>Bool.noConfusion h)|refine And.intro ?_ ?_)
  case' h4_86=>rfl
  case' h6_86=>rfl
  case' h3_86=>repeat' (first |exact trivial |rfl |exact .inl rfl |exact .inr rfl |exact id |exact(fun h=>Bool.noConfusion h)|refine And.intro ?_ ?_)
  case' h5_86=>repeat' (first |exact trivial |rfl |exact .inl rfl |exact .inr rfl |exact id |exact(fun h=>Bool.noConfusion h)|refine And.intro ?_ ?_)
  ·rw [aI];omega
  ·exact bW rfl (aI g)
  ·simp
  ·exact bW rfl (by simp)
  ·simp
  ·exact bW (by simp [aI]) (by simp)
 dsimp only at hI⊢
 have hlen:((l.take i).map aJR).length=i:=by rw [zI,List.length_take];omega
 refine Wk ?_
 rw [bU]
 refine aC (fun b5=>?_) (fun b5=>?_)<;> try simp only [zD,zA,zF,zC,zG] at b5
 ·have b5:i<l.length:=by simp at b5;omega
  refine Wk ?_
  first |refine aB (⟨rfl,by omega,by rw [bU];omega⟩) ?_ |refine aH (fun _=>⟨rfl,by omega,by rw [bU];omega⟩) ?_ |refine⟨fun _=>⟨rfl,by omega,by rw [bU];omega⟩,?_⟩
  rw [tP l i b5]
  have ht:=aBF (0,0) b5
  generalize l.getD i (0,0)=f at ht
  refine Wk ?_
  refine⟨hlen.symm,by rw [hlen];show((i+1:Nat):Int)≤_;omega,by rw [hlen];show(i+1)*136≤_;omega,?_⟩
  refine Wk ?_
  rw [dG (by omega)]
  refine⟨i+1,by show i+1≤_;omega,?_,by show l.length- (i+1)<l.length-i;omega⟩
  dsimp only
  rw [ht]
  refine bT [some 0,some 1,some 16512] rfl rfl ?_ rfl ?_ rfl ?_
  repeat' (first |exact trivial |rfl |exact .inl rfl |exact .inr rfl |exact id |exact(fun h=>Bool.noConfusion h)|refine And.intro ?_ ?_)
  ·show((l.take i).map aJR).length+1=_
   rw [hlen]
  ·exact aQ1 _ f
 have b5:i=l.length:=by simp at b5;omega
 subst b5
 rw [zL] at hlen⊢
 refine Wk ?_
 generalize hn:(szF z).toNat=n
 have hn':szF z=(n:Int):=by omega
 refine⟨Nat,fun i=>i≤n,fun i=>⟨[(6,⟨[],true,.ptr 0 0 0⟩),(9,⟨[],true,.lst 6 false (aP z)⟩),(11,⟨[],true,.ptr 1 0 0⟩),(13,⟨[],true,.int .i64 (i:Int)⟩)],
  [(0,nb),(1,.box [.lst 15 false (l.map aJR),.sl 2 0 i,.lst 6 false (aP z),.lst 3 false (bE g),.lst 3 false (zE g.length [bP,bP,bP]),.lst 1 false (zE g.length [.int .i64 0]),bP]),(2,.row 9 (pX (zE i fre)))],3⟩,fun i=>n-i,⟨0,Nat.zero_le _,?_⟩,fun i hI=>?_⟩
 ·refine bT [some 0,some 1,none] rfl rfl ?_ rfl ?_ rfl ?_
  repeat' (first |exact trivial |rfl |exact .inl rfl |exact .inr rfl |exact id |exact(fun h=>Bool.noConfusion h)|refine And.intro ?_ ?_)
  ·omega
  ·exact bW rfl hlen
 dsimp only at hI⊢
 have hlen2:(pX (zE i fre)).length=i:=by rw [aQO,aXS]
 refine cC (bEX z false (lX hz.chk)) ?_
 rw [hz.free,hn']
 refine aC (fun b6=>?_) (fun b6=>?_)<;> try simp only [zD,zA,zF,zC,zG] at b6
 ·have b6:i<n:=by simp at b6;omega
  refine Wk ?_
  refine aB hlen2.symm (bA (by rw [hlen2];show((i+1:Nat):Int)≤_;omega) (by rw [hlen2];show(i+1)*80≤_;omega) ?_)
  refine Wk ?_
  rw [dG (by omega)]
  refine⟨i+1,by show i+1≤_;omega,?_,by show n- (i+1)<n-i;omega⟩
  dsimp only
  rw [←aS4]
  refine bT [some 0,some 1,some 4] rfl rfl ?_ rfl ?_ rfl ?_
  repeat' (first |exact trivial |rfl |exact .inl rfl |exact .inr rfl |exact id |exact(fun h=>Bool.noConfusion h)|refine And.intro ?_ ?_)
  show(pX (zE i fre)).length+1=_
  rw [hlen2]
 have b6:i=n:=by simp at b6;omega
 subst b6
 refine Wk ?_
 refine⟨[],trivial,rfl,trivial,rfl,?_⟩
 try subst hk
 repeat' (first |exact trivial |rfl |exact .inl rfl |exact .inr rfl |exact id |exact(fun h=>Bool.noConfusion h)|refine And.intro ?_ ?_)
 ·omega
 ·exact bW (by rw [hn]) hlen2
end Go.Proofs.YtmhapcbjjpadnaaGreat
