/- Caches. -/
import Derived.Test.YtmhapcbjjpadnaaGreatG8b
import Derived.Test.YtmhapcbjjpadnaaGreatG2b
import Derived.Test.YtmhapcbjjpadnaaGreatG5b
import Derived.Test.YtmhapcbjjpadnaaGreatG7b
set_option linter.all false
set_option maxRecDepth 40000
open Bool renaming cond_false_right→zA,not_eq_true'→zC,cond_true_left→zD,not_eq_false'→zE,not_not→zG
open List renaming replicate→zF
namespace Go.Proofs.YtmhapcbjjpadnaaGreat
open Go Go.Sk Go.RowKit
def bN2:RC:=
 (.seq
 (.reg [⟨(some 4),none,(.mv (.c (.bool false)))⟩] [])
 (.seq
 (.seq
 (.reg [⟨(some 6),none,(.mv (.t 0))⟩,
   ⟨(some 7),none,(.len (.t 6))⟩,
   ⟨(some 8),none,(.mv (.t 1))⟩,
   ⟨(some 9),none,(.len (.t 8))⟩,
   ⟨(some 10),none,(.bin .neq (.t 7) (.t 9))⟩] [6,7,8,9])
 (.cond (.t 10)
  (.seq
  (.reg [⟨(some 4),none,(.mv (.c (.bool false)))⟩] [])
  .ret)
  .skip))
 (.seq
 (.seq
 (.reg [⟨(some 5),none,(.mv (.c (.int .i64 0)))⟩] [])
 (.block 0
  (.loop
   (.seq
   (.seq
   (.reg [⟨(some 11),none,(.mv (.t 5))⟩,
     ⟨(some 12),none,(.mv (.t 0))⟩,
     ⟨(some 13),none,(.len (.t 12))⟩,
     ⟨(some 14),none,(.bin .lss (.t 11) (.t 13))⟩] [11,12,13])
   (.cond (.t 14)
    .skip
    (.exit 0)))
   (.seq
   (.block 1
    (.seq
    (.dreg 7168 7312 [⟨(some 17),none,(.mv (.t 0))⟩,
      ⟨(some 18),none,(.mv (.t 5))⟩,
      ⟨(some 19),none,(.iaddr 3 (.t 17) (.t 18))⟩,
      ⟨(some 20),none,(.ld true 3 (.t 19))⟩,
      ⟨(some 21),none,(.mv (.t 1))⟩,
      ⟨(some 22),none,(.mv (.t 5))⟩,
      ⟨(some 23),none,(.iaddr 3 (.t 21) (.t 22))⟩,
      ⟨(some 24),none,(.ld true 3 (.t 23))⟩,
      ⟨(some 25),none,(.eqs true [(0,.i),(1,.i),(2,.i)] (.t 20) (.t 24))⟩] [17,18,19,20,21,22,23,24] [[],[],[0,1],[2,1,0],[],[],[4,5],[6,5,4],[3,0,1,2,7,4,5,6]] [7168,7184,7200,7216,7232,7248,7264,7280,7296])
    (.cond (.t 25)
     (.seq
     (.reg [⟨(some 4),none,(.mv (.c (.bool false)))⟩] [])
     .ret)
     .skip)))
   (.reg [⟨(some 15),none,(.mv (.t 5))⟩,
     ⟨(some 16),none,(.bin .add (.t 15) (.c (.int .i64 1)))⟩,
     ⟨(some 5),none,(.mv (.t 16))⟩] [15,16]))))))
 (.seq
 (.reg [⟨(some 4),none,(.mv (.c (.bool true)))⟩] [])
 .ret))))
theorem bK9:cZ Go.Proofs.Tryz.prog Go.Proofs.Tryz.f90.ntmps ((Go.Proofs.Tryz.f90.body).getD .skip)=some (strip bN2):=by kernel_rfl
theorem bMU(a:List Gr)(ta tb:Bool)(ha:a.length<=100000):aM Tryz.prog 90 [] [.lst 3 ta (bC a),.lst 3 tb (bC a)] (.bool true) []:=by
 refine aF [] Tryz.func90 rfl rfl (tL bK9 rfl) rfl ?_
 refine Wk ?_
 refine aC (λh1=>?_) (λh1=>?_)<;> try simp only [zD,zA,zC,zE,zG] at h1
 ·simp at h1
 refine Wk ?_
 refine⟨Nat,λi=>i<=a.length,λi=>⟨[(0,⟨[],true,.lst 3 ta (bC a)⟩),(1,⟨[],true,.lst 3 tb (bC a)⟩),(5,⟨[],true,.int .i64 (i:Int)⟩)],[],0⟩,λi=>a.length-i,⟨0,Nat.zero_le _,?_⟩,λi hI=>?_⟩
 ·exact Vw []
 dsimp only at hI⊢
 refine Wk ?_
 rw [aI]
 refine aC (λh2=>?_) (λh2=>?_)<;> try simp only [zD,zA,zC,zE,zG] at h2
 ·have h2:i<a.length:=by simp at h2;omega
  refine Wk ?_
  first |refine aB (⟨rfl,by omega,by rw [aI];omega⟩) ?_ |refine aH (λ_=>⟨rfl,by omega,by rw [aI];omega⟩) ?_ |refine⟨λ_=>⟨rfl,by omega,by rw [aI];omega⟩,?_⟩
  rw [fG a i h2]
  refine Wk ?_
  first |refine aB (⟨rfl,by omega,by rw [aI];omega⟩) ?_ |refine aH (λ_=>⟨rfl,by omega,by rw [aI];omega⟩) ?_ |refine⟨λ_=>⟨rfl,by omega,by rw [aI];omega⟩,?_⟩
  rw [fG a i h2]
  refine Wk ?_
  refine aC (λh3=>?_) (λh3=>?_)<;> try simp only [zD,zA,zC,zE,zG] at h3
  ·simp at h3
  refine Wk ?_
  rw [cV (by omega)]
  refine⟨i+1,by show i+1<=_;omega,?_,by show a.length- (i+1)<a.length-i;omega⟩
  exact Vw []
 have h2:i=a.length:=by simp at h2;omega
 refine Wk ?_
 try subst hk
 exact Lf
def bN3:RC:=
 (.seq
 (.reg [⟨(some 4),none,(.mv (.c (.bool false)))⟩] [])
 (.seq
 (.seq
 (.reg [⟨(some 6),none,(.mv (.t 0))⟩,
   ⟨(some 7),none,(.len (.t 6))⟩,
   ⟨(some 8),none,(.mv (.t 1))⟩,
   ⟨(some 9),none,(.len (.t 8))⟩,
   ⟨(some 10),none,(.bin .neq (.t 7) (.t 9))⟩] [6,7,8,9])
 (.cond (.t 10)
  (.seq
  (.reg [⟨(some 4),none,(.mv (.c (.bool false)))⟩] [])
  .ret)
  .skip))
 (.seq
 (.seq
 (.reg [⟨(some 5),none,(.mv (.c (.int .i64 0)))⟩] [])
 (.block 0
  (.loop
   (.seq
   (.seq
   (.reg [⟨(some 11),none,(.mv (.t 5))⟩,
     ⟨(some 12),none,(.mv (.t 0))⟩,
     ⟨(some 13),none,(.len (.t 12))⟩,
     ⟨(some 14),none,(.bin .lss (.t 11) (.t 13))⟩] [11,12,13])
   (.cond (.t 14)
    .skip
    (.exit 0)))
   (.seq
   (.block 1
    (.seq
    (.dreg 7168 7312 [⟨(some 17),none,(.mv (.t 0))⟩,
      ⟨(some 18),none,(.mv (.t 5))⟩,
      ⟨(some 19),none,(.iaddr 5 (.t 17) (.t 18))⟩,
      ⟨(some 20),none,(.ld true 5 (.t 19))⟩,
      ⟨(some 21),none,(.mv (.t 1))⟩,
      ⟨(some 22),none,(.mv (.t 5))⟩,
      ⟨(some 23),none,(.iaddr 5 (.t 21) (.t 22))⟩,
      ⟨(some 24),none,(.ld true 5 (.t 23))⟩,
      ⟨(some 25),none,(.eqs true [(0,.i),(1,.i),(2,.i),(3,.b),(4,.b)] (.t 20) (.t 24))⟩] [17,18,19,20,21,22,23,24] [[],[],[0,1],[2,1,0],[],[],[4,5],[6,5,4],[3,0,1,2,7,4,5,6]] [7168,7184,7200,7216,7232,7248,7264,7280,7296])
    (.cond (.t 25)
     (.seq
     (.reg [⟨(some 4),none,(.mv (.c (.bool false)))⟩] [])
     .ret)
     .skip)))
   (.reg [⟨(some 15),none,(.mv (.t 5))⟩,
     ⟨(some 16),none,(.bin .add (.t 15) (.c (.int .i64 1)))⟩,
     ⟨(some 5),none,(.mv (.t 16))⟩] [15,16]))))))
 (.seq
 (.reg [⟨(some 4),none,(.mv (.c (.bool true)))⟩] [])
 .ret))))
theorem bKA:cZ Go.Proofs.Tryz.prog Go.Proofs.Tryz.f92.ntmps ((Go.Proofs.Tryz.f92.body).getD .skip)=some (strip bN3):=by kernel_rfl
theorem bMV(a:List Pt)(ta tb:Bool)(ha:a.length<=100000):aM Tryz.prog 92 [] [.lst 5 ta (aY a),.lst 5 tb (aY a)] (.bool true) []:=by
 refine aF [] Tryz.func92 rfl rfl (tL bKA rfl) rfl ?_
 refine Wk ?_
 refine aC (λh1=>?_) (λh1=>?_)<;> try simp only [zD,zA,zC,zE,zG] at h1
 ·simp at h1
 refine Wk ?_
 refine⟨Nat,λi=>i<=a.length,λi=>⟨[(0,⟨[],true,.lst 5 ta (aY a)⟩),(1,⟨[],true,.lst 5 tb (aY a)⟩),(5,⟨[],true,.int .i64 (i:Int)⟩)],[],0⟩,λi=>a.length-i,⟨0,Nat.zero_le _,?_⟩,λi hI=>?_⟩
 ·exact Vw []
 dsimp only at hI⊢
 refine Wk ?_
 rw [aS]
 refine aC (λh2=>?_) (λh2=>?_)<;> try simp only [zD,zA,zC,zE,zG] at h2
 ·have h2:i<a.length:=by simp at h2;omega
  refine Wk ?_
  first |refine aB (⟨rfl,by omega,by rw [aS];omega⟩) ?_ |refine aH (λ_=>⟨rfl,by omega,by rw [aS];omega⟩) ?_ |refine⟨λ_=>⟨rfl,by omega,by rw [aS];omega⟩,?_⟩
  rw [uT a i h2]
  refine Wk ?_
  first |refine aB (⟨rfl,by omega,by rw [aS];omega⟩) ?_ |refine aH (λ_=>⟨rfl,by omega,by rw [aS];omega⟩) ?_ |refine⟨λ_=>⟨rfl,by omega,by rw [aS];omega⟩,?_⟩
  rw [uT a i h2]
  refine Wk ?_
  refine aC (λh3=>?_) (λh3=>?_)<;> try simp only [zD,zA,zC,zE,zG] at h3
  ·simp at h3
  refine Wk ?_
  rw [cV (by omega)]
  refine⟨i+1,by show i+1<=_;omega,?_,by show a.length- (i+1)<a.length-i;omega⟩
  exact Vw []
 have h2:i=a.length:=by simp at h2;omega
 refine Wk ?_
 try subst hk
 exact Lf
structure bLK(c:Ca):Prop where
 fl:c.fl.length<=100000
 fr:c.fr.length<=100000
 zo:eV c.zo
 gr:c.gr.length<=100000
 ls:c.ls.length<=100000
 lz:∀l∈c.ls,eL l
 ck:c.ck.length<=100000
 pt:c.pt.length<=100000
theorem aF8(b:ByteArray):lB b b=true:=by simp [lB]
def bN0:RC:=
 (.seq
 (.reg [⟨(some 2),none,(.box (.t 0))⟩,
   ⟨(some 3),none,(.box (.t 1))⟩,
   ⟨(some 4),none,(.mv (.c (.bool false)))⟩] [])
 (.seq
 (.seq
 (.reg [⟨(some 10),none,(.faddr 0 (.t 2))⟩,
   ⟨(some 11),none,(.ld false 1 (.t 10))⟩,
   ⟨(some 12),none,(.len (.t 11))⟩,
   ⟨(some 13),none,(.faddr 0 (.t 3))⟩,
   ⟨(some 14),none,(.ld false 1 (.t 13))⟩,
   ⟨(some 15),none,(.len (.t 14))⟩,
   ⟨(some 16),none,(.bin .neq (.t 12) (.t 15))⟩,
   ⟨(some 17),none,(.mv (.t 16))⟩,
   ⟨(some 18),(some (17,false)),(.faddr 1 (.t 2))⟩,
   ⟨(some 19),(some (17,false)),(.ld false 1 (.t 18))⟩,
   ⟨(some 20),(some (17,false)),(.len (.t 19))⟩,
   ⟨(some 21),(some (17,false)),(.faddr 1 (.t 3))⟩,
   ⟨(some 22),(some (17,false)),(.ld false 1 (.t 21))⟩,
   ⟨(some 23),(some (17,false)),(.len (.t 22))⟩,
   ⟨(some 24),(some (17,false)),(.bin .neq (.t 20) (.t 23))⟩,
   ⟨(some 25),none,(.pick (.t 17) (.c (.bool true)) (.t 24))⟩,
   ⟨(some 26),none,(.mv (.t 25))⟩,
   ⟨(some 27),(some (26,false)),(.faddr 4 (.t 2))⟩,
   ⟨(some 28),(some (26,false)),(.ld false 1 (.t 27))⟩,
   ⟨(some 29),(some (26,false)),(.len (.t 28))⟩,
   ⟨(some 30),(some (26,false)),(.faddr 4 (.t 3))⟩,
   ⟨(some 31),(some (26,false)),(.ld false 1 (.t 30))⟩,
   ⟨(some 32),(some (26,false)),(.len (.t 31))⟩,
   ⟨(some 33),(some (26,false)),(.bin .neq (.t 29) (.t 32))⟩,
   ⟨(some 34),none,(.pick (.t 26) (.c (.bool true)) (.t 33))⟩,
   ⟨(some 35),none,(.mv (.t 34))⟩,
   ⟨(some 36),(some (35,false)),(.faddr 2 (.t 2))⟩,
   ⟨(some 37),(some (35,false)),(.ld false 1 (.t 36))⟩,
   ⟨(some 38),(some (35,false)),(.faddr 2 (.t 3))⟩,
   ⟨(some 39),(some (35,false)),(.ld false 1 (.t 38))⟩,
   ⟨(some 40),(some (35,false)),(.call 89 [(.t 37),(.t 39)])⟩,
   ⟨(some 41),(some (35,false)),(.un .not (.t 40))⟩,
   ⟨(some 42),none,(.pick (.t 35) (.c (.bool true)) (.t 41))⟩,
   ⟨(some 43),none,(.mv (.t 42))⟩,
   ⟨(some 44),(some (43,false)),(.faddr 3 (.t 2))⟩,
   ⟨(some 45),(some (43,false)),(.ld false 1 (.t 44))⟩,
   ⟨(some 46),(some (43,false)),(.faddr 3 (.t 3))⟩,
   ⟨(some 47),(some (43,false)),(.ld false 1 (.t 46))⟩,
   ⟨(some 48),(some (43,false)),(.call 90 [(.t 45),(.t 47)])⟩,
   ⟨(some 49),(some (43,false)),(.un .not (.t 48))⟩,
   ⟨(some 50),none,(.pick (.t 43) (.c (.bool true)) (.t 49))⟩,
   ⟨(some 51),none,(.mv (.t 50))⟩,
   ⟨(some 52),(some (51,false)),(.faddr 5 (.t 2))⟩,
   ⟨(some 53),(some (51,false)),(.ld false 1 (.t 52))⟩,
   ⟨(some 54),(some (51,false)),(.faddr 5 (.t 3))⟩,
   ⟨(some 55),(some (51,false)),(.ld false 1 (.t 54))⟩,
   ⟨(some 56),(some (51,false)),(.call 91 [(.t 53),(.t 55)])⟩,
   ⟨(some 57),(some (51,false)),(.un .not (.t 56))⟩,
   ⟨(some 58),none,(.pick (.t 51) (.c (.bool true)) (.t 57))⟩,
   ⟨(some 59),none,(.mv (.t 58))⟩,
   ⟨(some 60),(some (59,false)),(.faddr 6 (.t 2))⟩,
   ⟨(some 61),(some (59,false)),(.ld false 1 (.t 60))⟩,
   ⟨(some 62),(some (59,false)),(.faddr 6 (.t 3))⟩,
   ⟨(some 63),(some (59,false)),(.ld false 1 (.t 62))⟩,
   ⟨(some 64),(some (59,false)),(.call 92 [(.t 61),(.t 63)])⟩,
   ⟨(some 65),(some (59,false)),(.un .not (.t 64))⟩,
   ⟨(some 66),none,(.pick (.t 59) (.c (.bool true)) (.t 65))⟩] [10,11,12,13,14,15,16,17,18,19,20,21,22,23,24,25,26,27,28,29,30,31,32,33,34,35,36,37,38,39,40,41,42,43,44,45,46,47,48,49,50,51,52,53,54,55,56,57,58,59,60,61,62,63,64,65])
 (.cond (.t 66)
  (.seq
  (.reg [⟨(some 4),none,(.mv (.c (.bool false)))⟩] [])
  .ret)
  .skip))
 (.seq
 (.seq
 (.reg [⟨(some 5),none,(.mv (.c (.int .i64 0)))⟩] [])
 (.block 0
  (.loop
   (.seq
   (.seq
   (.reg [⟨(some 67),none,(.mv (.t 5))⟩,
     ⟨(some 68),none,(.faddr 0 (.t 2))⟩,
     ⟨(some 69),none,(.ld false 1 (.t 68))⟩,
     ⟨(some 70),none,(.len (.t 69))⟩,
     ⟨(some 71),none,(.bin .lss (.t 67) (.t 70))⟩] [67,68,69,70])
   (.cond (.t 71)
    .skip
    (.exit 0)))
   (.seq
   (.block 1
    (.seq
    (.dreg 7168 7392 [⟨(some 74),none,(.faddr 0 (.t 2))⟩,
      ⟨(some 75),none,(.ld false 1 (.t 74))⟩,
      ⟨(some 76),none,(.mv (.t 5))⟩,
      ⟨(some 77),none,(.iaddr 15 (.t 75) (.t 76))⟩,
      ⟨(some 78),none,(.ld true 15 (.t 77))⟩,
      ⟨(some 79),none,(.faddr 0 (.t 3))⟩,
      ⟨(some 80),none,(.ld false 1 (.t 79))⟩,
      ⟨(some 81),none,(.mv (.t 5))⟩,
      ⟨(some 82),none,(.iaddr 15 (.t 80) (.t 81))⟩,
      ⟨(some 83),none,(.ld true 15 (.t 82))⟩,
      ⟨(some 6),none,(.alloc [(.int .i64 0),(.int .i64 0),(.int .i64 0),(.lst 0 true []),(.int .i64 0),(.int .i64 0),(.int .i64 0),(.int .i64 0),(.int .i64 0),(.int .i64 0),(.int .i64 0),(.int .i64 0),(.int .i64 0),(.int .i64 0),(.int .i64 0)])⟩,
      ⟨(some 7),none,(.alloc [(.int .i64 0),(.int .i64 0),(.int .i64 0),(.lst 0 true []),(.int .i64 0),(.int .i64 0),(.int .i64 0),(.int .i64 0),(.int .i64 0),(.int .i64 0),(.int .i64 0),(.int .i64 0),(.int .i64 0),(.int .i64 0),(.int .i64 0)])⟩,
      ⟨none,none,(.st 15 (.t 6) (.t 78))⟩,
      ⟨none,none,(.st 15 (.t 7) (.t 83))⟩] [74,75,76,77,78,79,80,81,82,83] [[],[0],[],[1,0,2],[3,2,0,1],[],[5],[],[6,5,7],[8,7,5,6],[],[],[4,1,0,2,3,10,11],[9,6,5,7,8,12,11,10,3,2,0,1,4]] [7168,7184,7200,7216,7232,7248,7264,7280,7296,7312,7328,7344,7360,7376])
    (.seq
    (.reg [⟨(some 84),none,(.faddr 0 (.t 6))⟩,
      ⟨(some 85),none,(.ld true 2 (.t 84))⟩,
      ⟨(some 86),none,(.faddr 0 (.t 7))⟩,
      ⟨(some 87),none,(.ld true 2 (.t 86))⟩,
      ⟨(some 88),none,(.eqs true [(0,.i),(1,.i)] (.t 85) (.t 87))⟩,
      ⟨(some 89),none,(.mv (.t 88))⟩,
      ⟨(some 90),(some (89,false)),(.faddr 6 (.t 6))⟩,
      ⟨(some 91),(some (89,false)),(.ld false 1 (.t 90))⟩,
      ⟨(some 92),(some (89,false)),(.faddr 6 (.t 7))⟩,
      ⟨(some 93),(some (89,false)),(.ld false 1 (.t 92))⟩,
      ⟨(some 94),(some (89,false)),(.bin .neq (.t 91) (.t 93))⟩,
      ⟨(some 95),none,(.pick (.t 89) (.c (.bool true)) (.t 94))⟩,
      ⟨(some 96),none,(.mv (.t 95))⟩,
      ⟨(some 97),(some (96,false)),(.faddr 7 (.t 6))⟩,
      ⟨(some 98),(some (96,false)),(.ld false 1 (.t 97))⟩,
      ⟨(some 99),(some (96,false)),(.faddr 7 (.t 7))⟩,
      ⟨(some 100),(some (96,false)),(.ld false 1 (.t 99))⟩,
      ⟨(some 101),(some (96,false)),(.bin .neq (.t 98) (.t 100))⟩,
      ⟨(some 102),none,(.pick (.t 96) (.c (.bool true)) (.t 101))⟩,
      ⟨(some 103),none,(.mv (.t 102))⟩,
      ⟨(some 104),(some (103,false)),(.faddr 8 (.t 6))⟩,
      ⟨(some 105),(some (103,false)),(.ld true 2 (.t 104))⟩,
      ⟨(some 106),(some (103,false)),(.faddr 8 (.t 7))⟩,
      ⟨(some 107),(some (103,false)),(.ld true 2 (.t 106))⟩,
      ⟨(some 108),(some (103,false)),(.eqs true [(0,.i),(1,.i)] (.t 105) (.t 107))⟩,
      ⟨(some 109),none,(.pick (.t 103) (.c (.bool true)) (.t 108))⟩,
      ⟨(some 110),none,(.mv (.t 109))⟩,
      ⟨(some 111),(some (110,false)),(.faddr 10 (.t 6))⟩,
      ⟨(some 112),(some (110,false)),(.ld true 3 (.t 111))⟩,
      ⟨(some 113),(some (110,false)),(.faddr 10 (.t 7))⟩,
      ⟨(some 114),(some (110,false)),(.ld true 3 (.t 113))⟩,
      ⟨(some 115),(some (110,false)),(.eqs true [(0,.i),(1,.i),(2,.i)] (.t 112) (.t 114))⟩,
      ⟨(some 116),none,(.pick (.t 110) (.c (.bool true)) (.t 115))⟩,
      ⟨(some 117),none,(.mv (.t 116))⟩,
      ⟨(some 118),(some (117,false)),(.faddr 13 (.t 6))⟩,
      ⟨(some 119),(some (117,false)),(.ld false 1 (.t 118))⟩,
      ⟨(some 120),(some (117,false)),(.faddr 13 (.t 7))⟩,
      ⟨(some 121),(some (117,false)),(.ld false 1 (.t 120))⟩,
      ⟨(some 122),(some (117,false)),(.bin .neq (.t 119) (.t 121))⟩,
      ⟨(some 123),none,(.pick (.t 117) (.c (.bool true)) (.t 122))⟩,
      ⟨(some 124),none,(.mv (.t 123))⟩,
      ⟨(some 125),(some (124,false)),(.faddr 14 (.t 6))⟩,
      ⟨(some 126),(some (124,false)),(.ld false 1 (.t 125))⟩,
      ⟨(some 127),(some (124,false)),(.faddr 14 (.t 7))⟩,
      ⟨(some 128),(some (124,false)),(.ld false 1 (.t 127))⟩,
      ⟨(some 129),(some (124,false)),(.bin .neq (.t 126) (.t 128))⟩,
      ⟨(some 130),none,(.pick (.t 124) (.c (.bool true)) (.t 129))⟩,
      ⟨(some 131),none,(.mv (.t 130))⟩,
      ⟨(some 132),(some (131,false)),(.faddr 2 (.t 6))⟩,
      ⟨(some 133),(some (131,false)),(.ld true 4 (.t 132))⟩,
      ⟨(some 134),(some (131,false)),(.faddr 2 (.t 7))⟩,
      ⟨(some 135),(some (131,false)),(.ld true 4 (.t 134))⟩,
      ⟨(some 136),(some (131,false)),(.call 93 [(.t 133),(.t 135)])⟩,
      ⟨(some 137),(some (131,false)),(.un .not (.t 136))⟩,
      ⟨(some 138),none,(.pick (.t 131) (.c (.bool true)) (.t 137))⟩] [84,85,86,87,88,89,90,91,92,93,94,95,96,97,98,99,100,101,102,103,104,105,106,107,108,109,110,111,112,113,114,115,116,117,118,119,120,121,122,123,124,125,126,127,128,129,130,131,132,133,134,135,136,137])
    (.cond (.t 138)
     (.seq
     (.reg [⟨(some 4),none,(.mv (.c (.bool false)))⟩] [])
     .ret)
     .skip))))
   (.reg [⟨(some 72),none,(.mv (.t 5))⟩,
     ⟨(some 73),none,(.bin .add (.t 72) (.c (.int .i64 1)))⟩,
     ⟨(some 5),none,(.mv (.t 73))⟩] [72,73]))))))
 (.seq
 (.seq
 (.reg [⟨(some 8),none,(.mv (.c (.int .i64 0)))⟩] [])
 (.block 2
  (.loop
   (.seq
   (.seq
   (.reg [⟨(some 139),none,(.mv (.t 8))⟩,
     ⟨(some 140),none,(.faddr 1 (.t 2))⟩,
     ⟨(some 141),none,(.ld false 1 (.t 140))⟩,
     ⟨(some 142),none,(.len (.t 141))⟩,
     ⟨(some 143),none,(.bin .lss (.t 139) (.t 142))⟩] [139,140,141,142])
   (.cond (.t 143)
    .skip
    (.exit 2)))
   (.seq
   (.block 3
    (.seq
    (.dreg 13312 13488 [⟨(some 146),none,(.faddr 1 (.t 2))⟩,
      ⟨(some 147),none,(.ld false 1 (.t 146))⟩,
      ⟨(some 148),none,(.mv (.t 8))⟩,
      ⟨(some 149),none,(.iaddr 9 (.t 147) (.t 148))⟩,
      ⟨(some 150),none,(.ld true 9 (.t 149))⟩,
      ⟨(some 151),none,(.faddr 1 (.t 3))⟩,
      ⟨(some 152),none,(.ld false 1 (.t 151))⟩,
      ⟨(some 153),none,(.mv (.t 8))⟩,
      ⟨(some 154),none,(.iaddr 9 (.t 152) (.t 153))⟩,
      ⟨(some 155),none,(.ld true 9 (.t 154))⟩,
      ⟨(some 156),none,(.eqs true [(0,.i),(1,.i),(2,.s),(3,.i),(4,.i),(5,.i),(6,.i),(7,.i),(8,.i)] (.t 150) (.t 155))⟩] [146,147,148,149,150,151,152,153,154,155] [[],[0],[],[1,0,2],[3,2,0,1],[],[5],[],[6,5,7],[8,7,5,6],[4,1,0,2,3,9,6,5,7,8]] [13312,13328,13344,13360,13376,13392,13408,13424,13440,13456,13472])
    (.cond (.t 156)
     (.seq
     (.reg [⟨(some 4),none,(.mv (.c (.bool false)))⟩] [])
     .ret)
     .skip)))
   (.reg [⟨(some 144),none,(.mv (.t 8))⟩,
     ⟨(some 145),none,(.bin .add (.t 144) (.c (.int .i64 1)))⟩,
     ⟨(some 8),none,(.mv (.t 145))⟩] [144,145]))))))
 (.seq
 (.seq
 (.reg [⟨(some 9),none,(.mv (.c (.int .i64 0)))⟩] [])
 (.block 4
  (.loop
   (.seq
   (.seq
   (.reg [⟨(some 157),none,(.mv (.t 9))⟩,
     ⟨(some 158),none,(.faddr 4 (.t 2))⟩,
     ⟨(some 159),none,(.ld false 1 (.t 158))⟩,
     ⟨(some 160),none,(.len (.t 159))⟩,
     ⟨(some 161),none,(.bin .lss (.t 157) (.t 160))⟩] [157,158,159,160])
   (.cond (.t 161)
    .skip
    (.exit 4)))
   (.seq
   (.block 5
    (.seq
    (.dreg 18432 18624 [⟨(some 164),none,(.faddr 4 (.t 2))⟩,
      ⟨(some 165),none,(.ld false 1 (.t 164))⟩,
      ⟨(some 166),none,(.mv (.t 9))⟩,
      ⟨(some 167),none,(.iaddr 3 (.t 165) (.t 166))⟩,
      ⟨(some 168),none,(.ld true 3 (.t 167))⟩,
      ⟨(some 169),none,(.faddr 4 (.t 3))⟩,
      ⟨(some 170),none,(.ld false 1 (.t 169))⟩,
      ⟨(some 171),none,(.mv (.t 9))⟩,
      ⟨(some 172),none,(.iaddr 3 (.t 170) (.t 171))⟩,
      ⟨(some 173),none,(.ld true 3 (.t 172))⟩,
      ⟨(some 174),none,(.call 94 [(.t 168),(.t 173)])⟩,
      ⟨(some 175),none,(.un .not (.t 174))⟩] [164,165,166,167,168,169,170,171,172,173,174] [[],[0],[],[1,0,2],[3,2,0,1],[],[5],[],[6,5,7],[8,7,5,6],[4,1,0,2,3,9,6,5,7,8],[10,8,7,5,6,9,3,2,0,1,4]] [18432,18448,18464,18480,18496,18512,18528,18544,18560,18576,18592,18608])
    (.cond (.t 175)
     (.seq
     (.reg [⟨(some 4),none,(.mv (.c (.bool false)))⟩] [])
     .ret)
     .skip)))
   (.reg [⟨(some 162),none,(.mv (.t 9))⟩,
     ⟨(some 163),none,(.bin .add (.t 162) (.c (.int .i64 1)))⟩,
     ⟨(some 9),none,(.mv (.t 163))⟩] [162,163]))))))
 (.seq
 (.reg [⟨(some 4),none,(.mv (.c (.bool true)))⟩] [])
 .ret))))))
theorem bK8:cZ Go.Proofs.Tryz.prog Go.Proofs.Tryz.f18.ntmps ((Go.Proofs.Tryz.f18.body).getD .skip)=some (strip bN0):=by kernel_rfl
end Go.Proofs.YtmhapcbjjpadnaaGreat
namespace Go.Proofs.YtmhapcbjjpadnaaGreat
open Go Go.Sk Go.RowKit
def mkF(p:Int×Int):Fl:=⟨p.1,p.2,emT,0,0,0,0,0,0,0,0,0⟩
def bOW(l:List (Int×Int))(z:List Zn)(g:List Gr):Ca:=⟨l.map mkF,zF (szF z).toNat fre,z,g,zF g.length l0,zF g.length 0,[]⟩
def bOX(l:List (Int×Int))(z:List Zn)(g:List Gr):List V:= [.lst 15 false (bCI (l.map mkF)),.lst 9 false (rC (zF (szF z).toNat fre)),.lst 6 false (aQ z),.lst 3 false (bC g),.lst 3 false (bW (zF g.length l0)),.lst 1 false (aE (zF g.length 0)),.lst 5 false []]
structure bOF(l:List (Int×Int))(z:List Zn)(g:List Gr):Prop where
 loc:aCN l=true
 grp:rI g=true
 chg:aMK g=true
 zon:aSS z
theorem kY {p:Nat->Bool} :∀ {n i:Nat},bJ p n=true->i<n->p i=false
 |0,_,_,h=>absurd h (by omega)
 |n+1,i,h,hi=>by
  simp only [bJ,Bool.and_eq_true,zC] at h
  by_cases e:i=n
  ·subst e;first |exact h.1 |exact h.2
  ·exact kY (n:=n) (by first |exact h.1 |exact h.2) (by omega)
def bNQ(i:Nat)(z:Zn):Bool:=decide (((i+1:Nat):Int)∈z.free)
def bNV:RC:=
 (.seq
 (.reg [⟨(some 1),none,(.box (.t 0))⟩,
   ⟨(some 2),none,(.mv (.c (.bool false)))⟩] [])
 (.seq
 (.reg [⟨(some 3),none,(.mv (.c (.int .i64 0)))⟩] [])
 (.seq
 (.seq
 (.reg [⟨(some 10),none,(.faddr 1 (.t 1))⟩,
   ⟨(some 11),none,(.ld false 1 (.t 10))⟩,
   ⟨(some 12),none,(.len (.t 11))⟩,
   ⟨(some 13),none,(.mv (.c (.int .i64 0)))⟩] [10])
 (.block 0
  (.loop
   (.seq
   (.reg [⟨(some 14),none,(.bin .lss (.t 13) (.t 12))⟩] [])
   (.seq
   (.cond (.t 14)
    .skip
    (.exit 0))
   (.seq
   (.block 1
    (.seq
    (.reg [⟨(some 15),none,(.mv (.t 13))⟩,
      ⟨(some 16),none,(.iaddr 9 (.t 11) (.t 13))⟩,
      ⟨(some 17),none,(.ld true 9 (.t 16))⟩,
      ⟨(some 4),none,(.alloc [(.int .i64 0)])⟩,
      ⟨(some 5),none,(.alloc [(.int .i64 0),(.int .i64 0),(.str (ByteArray.mk (List.toArray []))),(.int .i64 0),(.int .i64 0),(.int .i64 0),(.int .i64 0),(.int .i64 0),(.int .i64 0)])⟩,
      ⟨none,none,(.st 1 (.t 4) (.t 15))⟩,
      ⟨none,none,(.st 9 (.t 5) (.t 17))⟩] [15,16,17])
    (.seq
    (.reg [⟨(some 18),none,(.faddr 2 (.t 1))⟩,
      ⟨(some 19),none,(.ld false 1 (.t 18))⟩,
      ⟨(some 20),none,(.mkfn 227 [(.t 4)])⟩,
      ⟨(some 21),none,(.call 226 [(.t 19),(.t 20)])⟩,
      ⟨(some 6),none,(.mv (.t 21))⟩] [18,19,20,21])
    (.seq
    (.seq
    (.reg [⟨(some 22),none,(.mv (.t 6))⟩,
      ⟨(some 23),none,(.faddr 0 (.t 5))⟩,
      ⟨(some 24),none,(.ld false 1 (.t 23))⟩,
      ⟨(some 25),none,(.bin .eql (.t 24) (.c (.int .i64 (-1))))⟩,
      ⟨(some 26),none,(.eqb true (.t 22) (.t 25))⟩,
      ⟨(some 27),none,(.mv (.t 26))⟩,
      ⟨(some 28),(some (27,false)),(.mv (.t 6))⟩,
      ⟨(some 29),(some (27,false)),(.mv (.t 28))⟩,
      ⟨(some 30),(some (29,true)),(.ld true 9 (.t 5))⟩,
      ⟨(some 31),(some (29,true)),(.build [(.int .i64 0),(.int .i64 0),(.str (ByteArray.mk (List.toArray []))),(.int .i64 0),(.int .i64 0),(.int .i64 0),(.int .i64 0),(.int .i64 0),(.int .i64 0)] [(0,(1,(.c (.int .i64 (-1)))))])⟩,
      ⟨(some 32),(some (29,true)),(.eqs true [(0,.i),(1,.i),(2,.s),(3,.i),(4,.i),(5,.i),(6,.i),(7,.i),(8,.i)] (.t 30) (.t 31))⟩,
      ⟨(some 33),(some (27,false)),(.pick (.t 29) (.t 32) (.c (.bool false)))⟩,
      ⟨(some 34),none,(.pick (.t 27) (.c (.bool true)) (.t 33))⟩] [22,23,24,25,26,27,28,29,30,31,32,33])
    (.cond (.t 34)
     (.seq
     (.reg [⟨(some 2),none,(.mv (.c (.bool false)))⟩] [])
     .ret)
     .skip))
    (.seq
    (.seq
    (.reg [⟨(some 35),none,(.mv (.t 6))⟩] [])
    (.cond (.t 35)
     (.exit 1)
     .skip))
    (.seq
    (.reg [⟨(some 36),none,(.mv (.t 3))⟩,
      ⟨(some 37),none,(.bin .add (.t 36) (.c (.int .i64 1)))⟩,
      ⟨(some 3),none,(.mv (.t 37))⟩] [36,37])
    (.seq
    (.seq
    (.dreg 11264 11840 [⟨(some 38),none,(.faddr 0 (.t 5))⟩,
      ⟨(some 39),none,(.ld false 1 (.t 38))⟩,
      ⟨(some 40),none,(.bin .lss (.t 39) (.c (.int .i64 0)))⟩,
      ⟨(some 41),none,(.mv (.t 40))⟩,
      ⟨(some 42),(some (41,false)),(.faddr 0 (.t 5))⟩,
      ⟨(some 43),(some (41,false)),(.ld false 1 (.t 42))⟩,
      ⟨(some 44),(some (41,false)),(.faddr 0 (.t 1))⟩,
      ⟨(some 45),(some (41,false)),(.ld false 1 (.t 44))⟩,
      ⟨(some 46),(some (41,false)),(.len (.t 45))⟩,
      ⟨(some 47),(some (41,false)),(.bin .geq (.t 43) (.t 46))⟩,
      ⟨(some 48),none,(.pick (.t 41) (.c (.bool true)) (.t 47))⟩,
      ⟨(some 49),none,(.mv (.t 48))⟩,
      ⟨(some 50),(some (49,false)),(.faddr 1 (.t 5))⟩,
      ⟨(some 51),(some (49,false)),(.ld false 1 (.t 50))⟩,
      ⟨(some 52),(some (49,false)),(.bin .lss (.t 51) (.c (.int .i64 0)))⟩,
      ⟨(some 53),none,(.pick (.t 49) (.c (.bool true)) (.t 52))⟩,
      ⟨(some 54),none,(.mv (.t 53))⟩,
      ⟨(some 55),(some (54,false)),(.faddr 1 (.t 5))⟩,
      ⟨(some 56),(some (54,false)),(.ld false 1 (.t 55))⟩,
      ⟨(some 57),(some (54,false)),(.bin .geq (.t 56) (.c (.int .i64 8)))⟩,
      ⟨(some 58),none,(.pick (.t 54) (.c (.bool true)) (.t 57))⟩,
      ⟨(some 59),none,(.mv (.t 58))⟩,
      ⟨(some 60),(some (59,false)),(.faddr 0 (.t 1))⟩,
      ⟨(some 61),(some (59,false)),(.ld false 1 (.t 60))⟩,
      ⟨(some 62),(some (59,false)),(.faddr 0 (.t 5))⟩,
      ⟨(some 63),(some (59,false)),(.ld false 1 (.t 62))⟩,
      ⟨(some 64),(some (59,false)),(.iaddr 15 (.t 61) (.t 63))⟩,
      ⟨(some 65),(some (59,false)),(.faddr 2 (.t 64))⟩,
      ⟨(some 66),(some (59,false)),(.ld true 4 (.t 65))⟩,
      ⟨(some 67),(some (59,false)),(.faddr 1 (.t 5))⟩,
      ⟨(some 68),(some (59,false)),(.ld false 1 (.t 67))⟩,
      ⟨(some 69),(some (59,false)),(.call 143 [(.t 66),(.t 68)])⟩,
      ⟨(some 70),(some (59,false)),(.ld false 1 (.t 4))⟩,
      ⟨(some 71),(some (59,false)),(.bin .add (.t 70) (.c (.int .i64 1)))⟩,
      ⟨(some 72),(some (59,false)),(.bin .neq (.t 69) (.t 71))⟩,
      ⟨(some 73),none,(.pick (.t 59) (.c (.bool true)) (.t 72))⟩] [38,39,40,41,42,43,44,45,46,47,48,49,50,51,52,53,54,55,56,57,58,59,60,61,62,63,64,65,66,67,68,69,70,71,72] [[],[0],[1,0],[2,0,1],[3,1,0,2],[4,3,1,0,2],[3,1,0,2],[6,3,1,0,2],[7,6,3,1,0,2],[5,4,8,6,7,3,1,0,2],[9,2,0,1,3,7,6,8,4,5],[10,5,4,8,6,7,9,3,1,0,2],[11,2,0,1,3,9,7,6,8,4,5,10],[12,11,2,0,1,3,9,7,6,8,4,5,10],[13,12,11,2,0,1,3,9,7,6,8,4,5,10],[14,10,5,4,8,6,7,9,3,1,0,2,11,12,13],[15,13,12,14,11,2,0,1,3,9,7,6,8,4,5,10],[16,10,5,4,8,6,7,9,3,1,0,2,11,14,12,13,15],[17,16,10,5,4,8,6,7,9,3,1,0,2,11,14,12,13,15],[18,17,16,10,5,4,8,6,7,9,3,1,0,2,11,14,12,13,15],[19,15,13,12,14,11,2,0,1,3,9,7,6,8,4,5,10,16,17,18],[20,18,17,19,16,10,5,4,8,6,7,9,3,1,0,2,11,14,12,13,15],[21,15,13,12,14,11,2,0,1,3,9,7,6,8,4,5,10,16,19,17,18,20],[22,21,15,13,12,14,11,2,0,1,3,9,7,6,8,4,5,10,16,19,17,18,20],[21,15,13,12,14,11,2,0,1,3,9,7,6,8,4,5,10,16,19,17,18,20],[24,21,15,13,12,14,11,2,0,1,3,9,7,6,8,4,5,10,16,19,17,18,20],[23,22,25,24,21,15,13,12,14,11,2,0,1,3,9,7,6,8,4,5,10,16,19,17,18,20],[26,24,25,22,23,21,15,13,12,14,11,2,0,1,3,9,7,6,8,4,5,10,16,19,17,18,20],[27,23,22,25,24,26,21,15,13,12,14,11,2,0,1,3,9,7,6,8,4,5,10,16,19,17,18,20],[21,15,13,12,14,11,2,0,1,3,9,7,6,8,4,5,10,16,19,17,18,20],[29,21,15,13,12,14,11,2,0,1,3,9,7,6,8,4,5,10,16,19,17,18,20],[28,26,24,25,22,23,27,30,29,21,15,13,12,14,11,2,0,1,3,9,7,6,8,4,5,10,16,19,17,18,20],[21,15,13,12,14,11,2,0,1,3,9,7,6,8,4,5,10,16,19,17,18,20],[32,21,15,13,12,14,11,2,0,1,3,9,7,6,8,4,5,10,16,19,17,18,20],[31,29,30,27,23,22,25,24,26,28,33,32,21,15,13,12,14,11,2,0,1,3,9,7,6,8,4,5,10,16,19,17,18,20],[34,20,18,17,19,16,10,5,4,8,6,7,9,3,1,0,2,11,14,12,13,15,21,32,33,28,26,24,25,22,23,27,30,29,31]] [11264,11280,11296,11312,11328,11344,11360,11376,11392,11408,11424,11440,11456,11472,11488,11504,11520,11536,11552,11568,11584,11600,11616,11632,11648,11664,11680,11696,11712,11728,11744,11760,11776,11792,11808,11824])
    (.cond (.t 73)
     (.seq
     (.reg [⟨(some 2),none,(.mv (.c (.bool false)))⟩] [])
     .ret)
     .skip))
    (.seq
    (.reg [⟨(some 74),none,(.faddr 0 (.t 1))⟩,
      ⟨(some 75),none,(.ld false 1 (.t 74))⟩,
      ⟨(some 76),none,(.faddr 0 (.t 5))⟩,
      ⟨(some 77),none,(.ld false 1 (.t 76))⟩,
      ⟨(some 78),none,(.iaddr 15 (.t 75) (.t 77))⟩,
      ⟨(some 79),none,(.faddr 2 (.t 78))⟩,
      ⟨(some 80),none,(.ld true 4 (.t 79))⟩,
      ⟨(some 7),none,(.alloc [(.int .i64 0),(.lst 0 true []),(.int .i64 0),(.int .i64 0)])⟩,
      ⟨none,none,(.st 4 (.t 7) (.t 80))⟩] [74,75,76,77,78,79,80])
    (.seq
    (.dreg 14336 14640 [⟨(some 81),none,(.ld true 4 (.t 7))⟩,
      ⟨(some 82),none,(.faddr 1 (.t 5))⟩,
      ⟨(some 83),none,(.ld false 1 (.t 82))⟩,
      ⟨(some 84),none,(.call 229 [(.t 81),(.t 83),(.c (.int .i64 1))])⟩,
      ⟨(some 85),none,(.faddr 2 (.t 5))⟩,
      ⟨(some 86),none,(.faddr 2 (.t 85))⟩,
      ⟨(some 87),none,(.ld false 1 (.t 86))⟩,
      ⟨(some 88),none,(.bin .neq (.t 87) (.c (.int .i64 0)))⟩,
      ⟨(some 89),none,(.eqb true (.t 84) (.t 88))⟩,
      ⟨(some 90),none,(.mv (.t 89))⟩,
      ⟨(some 91),(some (90,false)),(.ld true 4 (.t 7))⟩,
      ⟨(some 92),(some (90,false)),(.faddr 1 (.t 5))⟩,
      ⟨(some 93),(some (90,false)),(.ld false 1 (.t 92))⟩,
      ⟨(some 94),(some (90,false)),(.call 229 [(.t 91),(.t 93),(.c (.int .i64 2))])⟩,
      ⟨(some 95),(some (90,false)),(.faddr 8 (.t 5))⟩,
      ⟨(some 96),(some (90,false)),(.ld false 1 (.t 95))⟩,
      ⟨(some 97),(some (90,false)),(.bin .neq (.t 96) (.c (.int .i64 0)))⟩,
      ⟨(some 98),(some (90,false)),(.eqb true (.t 94) (.t 97))⟩,
      ⟨(some 99),none,(.pick (.t 90) (.c (.bool true)) (.t 98))⟩] [81,82,83,84,85,86,87,88,89,90,91,92,93,94,95,96,97,98] [[],[],[1],[0,2,1],[],[4],[5,4],[6,4,5],[3,1,2,0,7,5,4,6],[8,6,4,5,7,3,1,2,0],[9,0,2,1,3,7,5,4,6,8],[9,0,2,1,3,7,5,4,6,8],[11,9,0,2,1,3,7,5,4,6,8],[10,12,11,9,0,2,1,3,7,5,4,6,8],[9,0,2,1,3,7,5,4,6,8],[14,9,0,2,1,3,7,5,4,6,8],[15,14,9,0,2,1,3,7,5,4,6,8],[13,11,12,10,16,14,15,9,0,2,1,3,7,5,4,6,8],[17,8,6,4,5,7,3,1,2,0,9,15,14,16,10,12,11,13]] [14336,14352,14368,14384,14400,14416,14432,14448,14464,14480,14496,14512,14528,14544,14560,14576,14592,14608,14624])
    (.cond (.t 99)
     (.seq
     (.reg [⟨(some 2),none,(.mv (.c (.bool false)))⟩] [])
     .ret)
     .skip))))))))))
   (.reg [⟨(some 100),none,(.bin .add (.t 13) (.c (.int .i64 1)))⟩,
     ⟨(some 13),none,(.mv (.t 100))⟩] [100])))))))
 (.seq
 (.seq
 (.reg [⟨(some 101),none,(.faddr 0 (.t 1))⟩,
   ⟨(some 102),none,(.ld false 1 (.t 101))⟩,
   ⟨(some 103),none,(.len (.t 102))⟩,
   ⟨(some 104),none,(.mv (.c (.int .i64 0)))⟩] [101])
 (.block 2
  (.loop
   (.seq
   (.reg [⟨(some 105),none,(.bin .lss (.t 104) (.t 103))⟩] [])
   (.seq
   (.cond (.t 105)
    .skip
    (.exit 2))
   (.seq
   (.block 3
    (.seq
    (.reg [⟨(some 106),none,(.iaddr 15 (.t 102) (.t 104))⟩,
      ⟨(some 107),none,(.ld true 15 (.t 106))⟩,
      ⟨(some 9),none,(.alloc [(.int .i64 0),(.int .i64 0),(.int .i64 0),(.lst 0 true []),(.int .i64 0),(.int .i64 0),(.int .i64 0),(.int .i64 0),(.int .i64 0),(.int .i64 0),(.int .i64 0),(.int .i64 0),(.int .i64 0),(.int .i64 0),(.int .i64 0)])⟩,
      ⟨none,none,(.st 15 (.t 9) (.t 107))⟩] [106,107])
    (.reg [⟨(some 108),none,(.mv (.t 3))⟩,
      ⟨(some 109),none,(.faddr 2 (.t 9))⟩,
      ⟨(some 110),none,(.ld true 4 (.t 109))⟩,
      ⟨(some 111),none,(.call 230 [(.t 110),(.c (.int .i64 0))])⟩,
      ⟨(some 112),none,(.bin .sub (.t 108) (.t 111))⟩,
      ⟨(some 3),none,(.mv (.t 112))⟩] [108,109,110,111,112])))
   (.reg [⟨(some 113),none,(.bin .add (.t 104) (.c (.int .i64 1)))⟩,
     ⟨(some 104),none,(.mv (.t 113))⟩] [113])))))))
 (.seq
 (.reg [⟨(some 114),none,(.mv (.t 3))⟩,
   ⟨(some 115),none,(.bin .eql (.t 114) (.c (.int .i64 0)))⟩,
   ⟨(some 2),none,(.mv (.t 115))⟩] [114,115])
 .ret)))))
end Go.Proofs.YtmhapcbjjpadnaaGreat
