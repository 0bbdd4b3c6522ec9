/- Caches. -/
import Derived.Test.YtmhapcbjjpadnaaGreatG8c
import Derived.Test.YtmhapcbjjpadnaaGreatG2c
import Derived.Test.YtmhapcbjjpadnaaGreatG5c
import Derived.Test.YtmhapcbjjpadnaaGreatG7c
set_option linter.all false
set_option maxRecDepth 40000
open Bool renaming cond_false_right→zA,not_eq_true'→zC,cond_true_left→zD,not_eq_false'→zE,not_not→zF
namespace Go.Proofs.YtmhapcbjjpadnaaGreat
open Go Go.Sk Go.RowKit
def bTU:RC:=
 (.seq
 (.reg [oZ 4] [])
 (.seq
 (.seq
 (.reg [bN 6 0,
   qS 7 6,
   bN 8 1,
   qS 9 8,
   ⟨(some 10),none,(.bin .neq (.t 7) (.t 9))⟩] [6,7,8,9])
 (.cond (.t 10)
  (.seq
  (.reg [oZ 4] [])
  .ret)
  .skip))
 (.seq
 (.seq
 (.reg [aH8 5 0] [])
 (.block 0
  (.loop
   (.seq
   (.seq
   (.reg [bN 11 5,
     bN 12 0,
     qS 13 12,
     aHA 14 11 13] [11,12,13])
   (.cond (.t 14)
    .skip
    (.exit 0)))
   (.seq
   (.block 1
    (.seq
    (.dreg 7168 7312 [bN 17 0,
      bN 18 5,
      qR 19 3 17 18,
      pF 20 3 19,
      bN 21 1,
      bN 22 5,
      qR 23 3 21 22,
      pF 24 3 23,
      ⟨(some 25),none,(.eqs true [(0,.i),(1,.i),(2,.i)] (.t 20) (.t 24))⟩] [17,18,19,20,21,22,23,24] [[],[],[0,1],[2,1,0],[],[],[4,5],[6,5,4],[3,0,1,2,7,4,5,6]] [7168,7184,7200,7216,7232,7248,7264,7280,7296])
    (.cond (.t 25)
     (.seq
     (.reg [oZ 4] [])
     .ret)
     .skip)))
   (.reg [bN 15 5,
     aH7 16 15 1,
     bN 5 16] [15,16]))))))
 (.seq
 (.reg [⟨(some 4),none,(.mv (.c (.bool true)))⟩] [])
 .ret))))
theorem bRB:dK Go.Proofs.Tryz.prog Go.Proofs.Tryz.f90.ntmps ((Go.Proofs.Tryz.f90.body).getD .skip)=some (strip bTU):=by kernel_rfl
theorem bTL(a:List Gr)(e f:Bool)(B:a.length<=100000):aM Tryz.prog 90 [] [.lst 3 e (aQ a),.lst 3 f (aQ a)] (.bool true) []:=by
 refine eT [] Tryz.func90 rfl rfl (aG0 bRB rfl) rfl ?_;refine Wk ?_;refine aC (λj=>?_) (λj=>?_)<;> try simp only [zD,zA,zC,zE,zF] at j
 ·simp at j
 refine Wk ?_;refine⟨Nat,λi=>i<=a.length,λi=>⟨[(0,⟨[],true,.lst 3 e (aQ a)⟩),(1,⟨[],true,.lst 3 f (aQ a)⟩),(5,⟨[],true,.int .i64 (i:Int)⟩)],[],0⟩,λi=>a.length-i,⟨0,Nat.zero_le _,?_⟩,λi z=>?_⟩
 ·exact Vw []
 dsimp only at z⊢;refine Wk ?_;rw [aL];refine aC (λh2=>?_) (λh2=>?_)<;> try simp only [zD,zA,zC,zE,zF] at h2
 ·have h2:i<a.length:=by simp at h2;omega
  refine Wk ?_;refine⟨λ_=>⟨rfl,by omega,by rw [aL];omega⟩,?_⟩;rw [cY a i h2];refine Wk ?_;refine⟨λ_=>⟨rfl,by omega,by rw [aL];omega⟩,?_⟩;rw [cY a i h2];refine Wk ?_;refine aC (λm=>?_) (λm=>?_)<;> try simp only [zD,zA,zC,zE,zF] at m
  ·simp at m
  refine Wk ?_;rw [eF (by omega)];refine⟨i+1,by show i+1<=_;omega,?_,by show a.length- (i+1)<a.length-i;omega⟩;exact Vw []
 have h2:i=a.length:=by simp at h2;omega
 refine Wk ?_;exact Lf
def bTV:RC:=
 (.seq
 (.reg [oZ 4] [])
 (.seq
 (.seq
 (.reg [bN 6 0,
   qS 7 6,
   bN 8 1,
   qS 9 8,
   ⟨(some 10),none,(.bin .neq (.t 7) (.t 9))⟩] [6,7,8,9])
 (.cond (.t 10)
  (.seq
  (.reg [oZ 4] [])
  .ret)
  .skip))
 (.seq
 (.seq
 (.reg [aH8 5 0] [])
 (.block 0
  (.loop
   (.seq
   (.seq
   (.reg [bN 11 5,
     bN 12 0,
     qS 13 12,
     aHA 14 11 13] [11,12,13])
   (.cond (.t 14)
    .skip
    (.exit 0)))
   (.seq
   (.block 1
    (.seq
    (.dreg 7168 7312 [bN 17 0,
      bN 18 5,
      qR 19 5 17 18,
      pF 20 5 19,
      bN 21 1,
      bN 22 5,
      qR 23 5 21 22,
      pF 24 5 23,
      ⟨(some 25),none,(.eqs true [(0,.i),(1,.i),(2,.i),(3,.b),(4,.b)] (.t 20) (.t 24))⟩] [17,18,19,20,21,22,23,24] [[],[],[0,1],[2,1,0],[],[],[4,5],[6,5,4],[3,0,1,2,7,4,5,6]] [7168,7184,7200,7216,7232,7248,7264,7280,7296])
    (.cond (.t 25)
     (.seq
     (.reg [oZ 4] [])
     .ret)
     .skip)))
   (.reg [bN 15 5,
     aH7 16 15 1,
     bN 5 16] [15,16]))))))
 (.seq
 (.reg [⟨(some 4),none,(.mv (.c (.bool true)))⟩] [])
 .ret))))
theorem bRC:dK Go.Proofs.Tryz.prog Go.Proofs.Tryz.f92.ntmps ((Go.Proofs.Tryz.f92.body).getD .skip)=some (strip bTV):=by kernel_rfl
theorem bTM(a:List Pt)(e f:Bool)(B:a.length<=100000):aM Tryz.prog 92 [] [.lst 5 e (aN a),.lst 5 f (aN a)] (.bool true) []:=by
 refine eT [] Tryz.func92 rfl rfl (aG0 bRC rfl) rfl ?_;refine Wk ?_;refine aC (λj=>?_) (λj=>?_)<;> try simp only [zD,zA,zC,zE,zF] at j
 ·simp at j
 refine Wk ?_;refine⟨Nat,λi=>i<=a.length,λi=>⟨[(0,⟨[],true,.lst 5 e (aN a)⟩),(1,⟨[],true,.lst 5 f (aN a)⟩),(5,⟨[],true,.int .i64 (i:Int)⟩)],[],0⟩,λi=>a.length-i,⟨0,Nat.zero_le _,?_⟩,λi z=>?_⟩
 ·exact Vw []
 dsimp only at z⊢;refine Wk ?_;rw [bT];refine aC (λh2=>?_) (λh2=>?_)<;> try simp only [zD,zA,zC,zE,zF] at h2
 ·have h2:i<a.length:=by simp at h2;omega
  refine Wk ?_;refine⟨λ_=>⟨rfl,by omega,by rw [bT];omega⟩,?_⟩;rw [aAW a i h2];refine Wk ?_;refine⟨λ_=>⟨rfl,by omega,by rw [bT];omega⟩,?_⟩;rw [aAW a i h2];refine Wk ?_;refine aC (λm=>?_) (λm=>?_)<;> try simp only [zD,zA,zC,zE,zF] at m
  ·simp at m
  refine Wk ?_;rw [eF (by omega)];refine⟨i+1,by show i+1<=_;omega,?_,by show a.length- (i+1)<a.length-i;omega⟩;exact Vw []
 have h2:i=a.length:=by simp at h2;omega
 refine Wk ?_;exact Lf
structure bSC(c:Ca):Prop where
 fl:c.fl.length<=100000
 fr:c.fr.length<=100000
 zo:fL c.zo
 gr:c.gr.length<=100000
 ls:c.ls.length<=100000
 lz:∀l∈c.ls,dM l
 ck:c.ck.length<=100000
 pt:c.pt.length<=100000
theorem aRW(b:ByteArray):uW b b=true:=by simp [uW]
def bTT:RC:=
 (.seq
 (.reg [⟨(some 2),none,(.box (.t 0))⟩,
   ⟨(some 3),none,(.box (.t 1))⟩,
   oZ 4] [])
 (.seq
 (.seq
 (.reg [pE 10 0 2,
   sU 11 1 10,
   qS 12 11,
   pE 13 0 3,
   sU 14 1 13,
   qS 15 14,
   ⟨(some 16),none,(.bin .neq (.t 12) (.t 15))⟩,
   bN 17 16,
   fS 18 17 1 2,
   iS 19 17 1 18,
   ⟨(some 20),(some (17,false)),(.len (.t 19))⟩,
   fS 21 17 1 3,
   iS 22 17 1 21,
   ⟨(some 23),(some (17,false)),(.len (.t 22))⟩,
   ⟨(some 24),(some (17,false)),(.bin .neq (.t 20) (.t 23))⟩,
   mZ 25 17 24,
   bN 26 25,
   fS 27 26 4 2,
   iS 28 26 1 27,
   ⟨(some 29),(some (26,false)),(.len (.t 28))⟩,
   fS 30 26 4 3,
   iS 31 26 1 30,
   ⟨(some 32),(some (26,false)),(.len (.t 31))⟩,
   ⟨(some 33),(some (26,false)),(.bin .neq (.t 29) (.t 32))⟩,
   mZ 34 26 33,
   bN 35 34,
   fS 36 35 2 2,
   iS 37 35 1 36,
   fS 38 35 2 3,
   iS 39 35 1 38,
   ⟨(some 40),(some (35,false)),(.call 89 [(.t 37),(.t 39)])⟩,
   ⟨(some 41),(some (35,false)),(.un .not (.t 40))⟩,
   mZ 42 35 41,
   bN 43 42,
   fS 44 43 3 2,
   iS 45 43 1 44,
   fS 46 43 3 3,
   iS 47 43 1 46,
   ⟨(some 48),(some (43,false)),(.call 90 [(.t 45),(.t 47)])⟩,
   ⟨(some 49),(some (43,false)),(.un .not (.t 48))⟩,
   mZ 50 43 49,
   bN 51 50,
   fS 52 51 5 2,
   iS 53 51 1 52,
   fS 54 51 5 3,
   iS 55 51 1 54,
   ⟨(some 56),(some (51,false)),(.call 91 [(.t 53),(.t 55)])⟩,
   ⟨(some 57),(some (51,false)),(.un .not (.t 56))⟩,
   mZ 58 51 57,
   bN 59 58,
   fS 60 59 6 2,
   iS 61 59 1 60,
   fS 62 59 6 3,
   iS 63 59 1 62,
   ⟨(some 64),(some (59,false)),(.call 92 [(.t 61),(.t 63)])⟩,
   ⟨(some 65),(some (59,false)),(.un .not (.t 64))⟩,
   mZ 66 59 65] [10,11,12,13,14,15,16,17,18,19,20,21,22,23,24,25,26,27,28,29,30,31,32,33,34,35,36,37,38,39,40,41,42,43,44,45,46,47,48,49,50,51,52,53,54,55,56,57,58,59,60,61,62,63,64,65])
 (.cond (.t 66)
  (.seq
  (.reg [oZ 4] [])
  .ret)
  .skip))
 (.seq
 (.seq
 (.reg [aH8 5 0] [])
 (.block 0
  (.loop
   (.seq
   (.seq
   (.reg [bN 67 5,
     pE 68 0 2,
     sU 69 1 68,
     qS 70 69,
     aHA 71 67 70] [67,68,69,70])
   (.cond (.t 71)
    .skip
    (.exit 0)))
   (.seq
   (.block 1
    (.seq
    (.dreg 7168 7392 [pE 74 0 2,
      sU 75 1 74,
      bN 76 5,
      qR 77 15 75 76,
      pF 78 15 77,
      pE 79 0 3,
      sU 80 1 79,
      bN 81 5,
      qR 82 15 80 81,
      pF 83 15 82,
      ⟨(some 6),none,(.alloc [(.int .i64 0),(.int .i64 0),(.int .i64 0),(.lst 0 true []),(.int .i64 0),(.int .i64 0),(.int .i64 0),(.int .i64 0),(.int .i64 0),(.int .i64 0),(.int .i64 0),(.int .i64 0),(.int .i64 0),(.int .i64 0),(.int .i64 0)])⟩,
      ⟨(some 7),none,(.alloc [(.int .i64 0),(.int .i64 0),(.int .i64 0),(.lst 0 true []),(.int .i64 0),(.int .i64 0),(.int .i64 0),(.int .i64 0),(.int .i64 0),(.int .i64 0),(.int .i64 0),(.int .i64 0),(.int .i64 0),(.int .i64 0),(.int .i64 0)])⟩,
      ⟨none,none,(.st 15 (.t 6) (.t 78))⟩,
      ⟨none,none,(.st 15 (.t 7) (.t 83))⟩] [74,75,76,77,78,79,80,81,82,83] [[],[0],[],[1,0,2],[3,2,0,1],[],[5],[],[6,5,7],[8,7,5,6],[],[],[4,1,0,2,3,10,11],[9,6,5,7,8,12,11,10,3,2,0,1,4]] [7168,7184,7200,7216,7232,7248,7264,7280,7296,7312,7328,7344,7360,7376])
    (.seq
    (.reg [pE 84 0 6,
      pF 85 2 84,
      pE 86 0 7,
      pF 87 2 86,
      ⟨(some 88),none,(.eqs true [(0,.i),(1,.i)] (.t 85) (.t 87))⟩,
      bN 89 88,
      fS 90 89 6 6,
      iS 91 89 1 90,
      fS 92 89 6 7,
      iS 93 89 1 92,
      ⟨(some 94),(some (89,false)),(.bin .neq (.t 91) (.t 93))⟩,
      mZ 95 89 94,
      bN 96 95,
      fS 97 96 7 6,
      iS 98 96 1 97,
      fS 99 96 7 7,
      iS 100 96 1 99,
      ⟨(some 101),(some (96,false)),(.bin .neq (.t 98) (.t 100))⟩,
      mZ 102 96 101,
      bN 103 102,
      fS 104 103 8 6,
      ⟨(some 105),(some (103,false)),(.ld true 2 (.t 104))⟩,
      fS 106 103 8 7,
      ⟨(some 107),(some (103,false)),(.ld true 2 (.t 106))⟩,
      ⟨(some 108),(some (103,false)),(.eqs true [(0,.i),(1,.i)] (.t 105) (.t 107))⟩,
      mZ 109 103 108,
      bN 110 109,
      fS 111 110 10 6,
      ⟨(some 112),(some (110,false)),(.ld true 3 (.t 111))⟩,
      fS 113 110 10 7,
      ⟨(some 114),(some (110,false)),(.ld true 3 (.t 113))⟩,
      ⟨(some 115),(some (110,false)),(.eqs true [(0,.i),(1,.i),(2,.i)] (.t 112) (.t 114))⟩,
      mZ 116 110 115,
      bN 117 116,
      fS 118 117 13 6,
      iS 119 117 1 118,
      fS 120 117 13 7,
      iS 121 117 1 120,
      ⟨(some 122),(some (117,false)),(.bin .neq (.t 119) (.t 121))⟩,
      mZ 123 117 122,
      bN 124 123,
      fS 125 124 14 6,
      iS 126 124 1 125,
      fS 127 124 14 7,
      iS 128 124 1 127,
      ⟨(some 129),(some (124,false)),(.bin .neq (.t 126) (.t 128))⟩,
      mZ 130 124 129,
      bN 131 130,
      fS 132 131 2 6,
      ⟨(some 133),(some (131,false)),(.ld true 4 (.t 132))⟩,
      fS 134 131 2 7,
      ⟨(some 135),(some (131,false)),(.ld true 4 (.t 134))⟩,
      ⟨(some 136),(some (131,false)),(.call 93 [(.t 133),(.t 135)])⟩,
      ⟨(some 137),(some (131,false)),(.un .not (.t 136))⟩,
      mZ 138 131 137] [84,85,86,87,88,89,90,91,92,93,94,95,96,97,98,99,100,101,102,103,104,105,106,107,108,109,110,111,112,113,114,115,116,117,118,119,120,121,122,123,124,125,126,127,128,129,130,131,132,133,134,135,136,137])
    (.cond (.t 138)
     (.seq
     (.reg [oZ 4] [])
     .ret)
     .skip))))
   (.reg [bN 72 5,
     aH7 73 72 1,
     bN 5 73] [72,73]))))))
 (.seq
 (.seq
 (.reg [aH8 8 0] [])
 (.block 2
  (.loop
   (.seq
   (.seq
   (.reg [bN 139 8,
     pE 140 1 2,
     sU 141 1 140,
     qS 142 141,
     aHA 143 139 142] [139,140,141,142])
   (.cond (.t 143)
    .skip
    (.exit 2)))
   (.seq
   (.block 3
    (.seq
    (.dreg 13312 13488 [pE 146 1 2,
      sU 147 1 146,
      bN 148 8,
      qR 149 9 147 148,
      pF 150 9 149,
      pE 151 1 3,
      sU 152 1 151,
      bN 153 8,
      qR 154 9 152 153,
      pF 155 9 154,
      ⟨(some 156),none,(.eqs true [(0,.i),(1,.i),(2,.s),(3,.i),(4,.i),(5,.i),(6,.i),(7,.i),(8,.i)] (.t 150) (.t 155))⟩] [146,147,148,149,150,151,152,153,154,155] [[],[0],[],[1,0,2],[3,2,0,1],[],[5],[],[6,5,7],[8,7,5,6],[4,1,0,2,3,9,6,5,7,8]] [13312,13328,13344,13360,13376,13392,13408,13424,13440,13456,13472])
    (.cond (.t 156)
     (.seq
     (.reg [oZ 4] [])
     .ret)
     .skip)))
   (.reg [bN 144 8,
     aH7 145 144 1,
     bN 8 145] [144,145]))))))
 (.seq
 (.seq
 (.reg [aH8 9 0] [])
 (.block 4
  (.loop
   (.seq
   (.seq
   (.reg [bN 157 9,
     pE 158 4 2,
     sU 159 1 158,
     qS 160 159,
     aHA 161 157 160] [157,158,159,160])
   (.cond (.t 161)
    .skip
    (.exit 4)))
   (.seq
   (.block 5
    (.seq
    (.dreg 18432 18624 [pE 164 4 2,
      sU 165 1 164,
      bN 166 9,
      qR 167 3 165 166,
      pF 168 3 167,
      pE 169 4 3,
      sU 170 1 169,
      bN 171 9,
      qR 172 3 170 171,
      pF 173 3 172,
      ⟨(some 174),none,(.call 94 [(.t 168),(.t 173)])⟩,
      ⟨(some 175),none,(.un .not (.t 174))⟩] [164,165,166,167,168,169,170,171,172,173,174] [[],[0],[],[1,0,2],[3,2,0,1],[],[5],[],[6,5,7],[8,7,5,6],[4,1,0,2,3,9,6,5,7,8],[10,8,7,5,6,9,3,2,0,1,4]] [18432,18448,18464,18480,18496,18512,18528,18544,18560,18576,18592,18608])
    (.cond (.t 175)
     (.seq
     (.reg [oZ 4] [])
     .ret)
     .skip)))
   (.reg [bN 162 9,
     aH7 163 162 1,
     bN 9 163] [162,163]))))))
 (.seq
 (.reg [⟨(some 4),none,(.mv (.c (.bool true)))⟩] [])
 .ret))))))
theorem bRA:dK Go.Proofs.Tryz.prog Go.Proofs.Tryz.f18.ntmps ((Go.Proofs.Tryz.f18.body).getD .skip)=some (strip bTT):=by kernel_rfl
def mkF(p:Int×Int):Fl:=⟨p.1,p.2,emT,0,0,0,0,0,0,0,0,0⟩
structure bUK(l:List (Int×Int))(z:List Zn)(g:List Gr):Prop where
 loc:aDA l=true
 grp:mY g=true
 chg:aNF g=true
 zon:aV3 z
theorem iV {p:Nat->Bool} :∀ {n i:Nat},bD p n=true->i<n->p i=false
 |0,_,_,h=>absurd h (by omega)
 |n+1,i,h,hi=>by
  simp only [bD,Bool.and_eq_true,zC] at h
  by_cases e:i=n
  ·subst e;first |exact h.1 |exact h.2
  ·exact iV (n:=n) (by first |exact h.1 |exact h.2) (by omega)
end Go.Proofs.YtmhapcbjjpadnaaGreat
