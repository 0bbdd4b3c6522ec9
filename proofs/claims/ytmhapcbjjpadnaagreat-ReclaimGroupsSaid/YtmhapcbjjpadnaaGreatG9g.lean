/- Caches. -/
import Derived.Test.YtmhapcbjjpadnaaGreatG8g
import Derived.Test.YtmhapcbjjpadnaaGreatG2g
import Derived.Test.YtmhapcbjjpadnaaGreatG5g
import Derived.Test.YtmhapcbjjpadnaaGreatG7g
set_option linter.all false
set_option maxRecDepth 40000
open Bool renaming cond_false_right→zA,not_eq_true'→zC,cond_true_left→zD,not_eq_false'→zE,not_not→zF
namespace Go.Proofs.YtmhapcbjjpadnaaGreat
open Go Go.Sk Go.RowKit
def bSE:RC:=
 (.seq
 (.reg [oO 4] [])
 (.seq
 (.seq
 (.reg [bK 6 0,
   qH 7 6,
   bK 8 1,
   qH 9 8,
   ⟨(some 10),none,(.bin .neq (.t 7) (.t 9))⟩] [6,7,8,9])
 (.cond (.t 10)
  (.seq
  (.reg [oO 4] [])
  .ret)
  .skip))
 (.seq
 (.seq
 (.reg [aGI 5 0] [])
 (.block 0
  (.loop
   (.seq
   (.seq
   (.reg [bK 11 5,
     bK 12 0,
     qH 13 12,
     aGK 14 11 13] [11,12,13])
   (.cond (.t 14)
    .skip
    (.exit 0)))
   (.seq
   (.block 1
    (.seq
    (.dreg 7168 7312 [bK 17 0,
      bK 18 5,
      qG 19 3 17 18,
      oQ 20 3 19,
      bK 21 1,
      bK 22 5,
      qG 23 3 21 22,
      oQ 24 3 23,
      ⟨(some 25),none,(.eqs true [(0,.i),(1,.i),(2,.i)] (.t 20) (.t 24))⟩] [17,18,19,20,21,22,23,24] [[],[],[0,1],[2,1,0],[],[],[4,5],[6,5,4],[3,0,1,2,7,4,5,6]] [7168,7184,7200,7216,7232,7248,7264,7280,7296])
    (.cond (.t 25)
     (.seq
     (.reg [oO 4] [])
     .ret)
     .skip)))
   (.reg [bK 15 5,
     aGH 16 15 1,
     bK 5 16] [15,16]))))))
 (.seq
 (.reg [⟨(some 4),none,(.mv (.c (.bool true)))⟩] [])
 .ret))))
theorem bPY:dF Go.Proofs.Tryz.prog Go.Proofs.Tryz.f90.ntmps ((Go.Proofs.Tryz.f90.body).getD .skip)=some (strip bSE):=by kernel_rfl
theorem bS5(a:List Gr)(e f:Bool)(z:a.length<=100000):aM Tryz.prog 90 [] [.lst 3 e (aR a),.lst 3 f (aR a)] (.bool true) []:=by
 refine eY [] Tryz.func90 rfl rfl (aFA bPY rfl) rfl ?_;refine Wk ?_;refine aC (λh1=>?_) (λh1=>?_)<;> try simp only [zD,zA,zC,zE,zF] at h1
 ·simp at h1
 refine Wk ?_;refine⟨Nat,λi=>i<=a.length,λi=>⟨[(0,⟨[],true,.lst 3 e (aR a)⟩),(1,⟨[],true,.lst 3 f (aR a)⟩),(5,⟨[],true,.int .i64 (i:Int)⟩)],[],0⟩,λi=>a.length-i,⟨0,Nat.zero_le _,?_⟩,λi m=>?_⟩
 ·exact Vw []
 dsimp only at m⊢;refine Wk ?_;rw [aL];refine aC (λh2=>?_) (λh2=>?_)<;> try simp only [zD,zA,zC,zE,zF] at h2
 ·have h2:i<a.length:=by simp at h2;omega
  refine Wk ?_;refine⟨λ_=>⟨rfl,by omega,by rw [aL];omega⟩,?_⟩;rw [dV a i h2];refine Wk ?_;refine⟨λ_=>⟨rfl,by omega,by rw [aL];omega⟩,?_⟩;rw [dV a i h2];refine Wk ?_;refine aC (λj=>?_) (λj=>?_)<;> try simp only [zD,zA,zC,zE,zF] at j
  ·simp at j
  refine Wk ?_;rw [dY (by omega)];refine⟨i+1,by show i+1<=_;omega,?_,by show a.length- (i+1)<a.length-i;omega⟩;exact Vw []
 have h2:i=a.length:=by simp at h2;omega
 refine Wk ?_;exact Lf
def bSF:RC:=
 (.seq
 (.reg [oO 4] [])
 (.seq
 (.seq
 (.reg [bK 6 0,
   qH 7 6,
   bK 8 1,
   qH 9 8,
   ⟨(some 10),none,(.bin .neq (.t 7) (.t 9))⟩] [6,7,8,9])
 (.cond (.t 10)
  (.seq
  (.reg [oO 4] [])
  .ret)
  .skip))
 (.seq
 (.seq
 (.reg [aGI 5 0] [])
 (.block 0
  (.loop
   (.seq
   (.seq
   (.reg [bK 11 5,
     bK 12 0,
     qH 13 12,
     aGK 14 11 13] [11,12,13])
   (.cond (.t 14)
    .skip
    (.exit 0)))
   (.seq
   (.block 1
    (.seq
    (.dreg 7168 7312 [bK 17 0,
      bK 18 5,
      qG 19 5 17 18,
      oQ 20 5 19,
      bK 21 1,
      bK 22 5,
      qG 23 5 21 22,
      oQ 24 5 23,
      ⟨(some 25),none,(.eqs true [(0,.i),(1,.i),(2,.i),(3,.b),(4,.b)] (.t 20) (.t 24))⟩] [17,18,19,20,21,22,23,24] [[],[],[0,1],[2,1,0],[],[],[4,5],[6,5,4],[3,0,1,2,7,4,5,6]] [7168,7184,7200,7216,7232,7248,7264,7280,7296])
    (.cond (.t 25)
     (.seq
     (.reg [oO 4] [])
     .ret)
     .skip)))
   (.reg [bK 15 5,
     aGH 16 15 1,
     bK 5 16] [15,16]))))))
 (.seq
 (.reg [⟨(some 4),none,(.mv (.c (.bool true)))⟩] [])
 .ret))))
theorem bPZ:dF Go.Proofs.Tryz.prog Go.Proofs.Tryz.f92.ntmps ((Go.Proofs.Tryz.f92.body).getD .skip)=some (strip bSF):=by kernel_rfl
theorem bS6(a:List Pt)(e f:Bool)(z:a.length<=100000):aM Tryz.prog 92 [] [.lst 5 e (aP a),.lst 5 f (aP a)] (.bool true) []:=by
 refine eY [] Tryz.func92 rfl rfl (aFA bPZ rfl) rfl ?_;refine Wk ?_;refine aC (λh1=>?_) (λh1=>?_)<;> try simp only [zD,zA,zC,zE,zF] at h1
 ·simp at h1
 refine Wk ?_;refine⟨Nat,λi=>i<=a.length,λi=>⟨[(0,⟨[],true,.lst 5 e (aP a)⟩),(1,⟨[],true,.lst 5 f (aP a)⟩),(5,⟨[],true,.int .i64 (i:Int)⟩)],[],0⟩,λi=>a.length-i,⟨0,Nat.zero_le _,?_⟩,λi m=>?_⟩
 ·exact Vw []
 dsimp only at m⊢;refine Wk ?_;rw [bR];refine aC (λh2=>?_) (λh2=>?_)<;> try simp only [zD,zA,zC,zE,zF] at h2
 ·have h2:i<a.length:=by simp at h2;omega
  refine Wk ?_;refine⟨λ_=>⟨rfl,by omega,by rw [bR];omega⟩,?_⟩;rw [aAG a i h2];refine Wk ?_;refine⟨λ_=>⟨rfl,by omega,by rw [bR];omega⟩,?_⟩;rw [aAG a i h2];refine Wk ?_;refine aC (λj=>?_) (λj=>?_)<;> try simp only [zD,zA,zC,zE,zF] at j
  ·simp at j
  refine Wk ?_;rw [dY (by omega)];refine⟨i+1,by show i+1<=_;omega,?_,by show a.length- (i+1)<a.length-i;omega⟩;exact Vw []
 have h2:i=a.length:=by simp at h2;omega
 refine Wk ?_;exact Lf
structure bR0(c:Ca):Prop where
 fl:c.fl.length<=100000
 fr:c.fr.length<=100000
 zo:fF c.zo
 gr:c.gr.length<=100000
 ls:c.ls.length<=100000
 lz:∀l∈c.ls,eA l
 ck:c.ck.length<=100000
 pt:c.pt.length<=100000
theorem aR3(b:ByteArray):uI b b=true:=by simp [uI]
def bSD:RC:=
 (.seq
 (.reg [⟨(some 2),none,(.box (.t 0))⟩,
   ⟨(some 3),none,(.box (.t 1))⟩,
   oO 4] [])
 (.seq
 (.seq
 (.reg [oP 10 0 2,
   sN 11 1 10,
   qH 12 11,
   oP 13 0 3,
   sN 14 1 13,
   qH 15 14,
   ⟨(some 16),none,(.bin .neq (.t 12) (.t 15))⟩,
   bK 17 16,
   fN 18 17 1 2,
   iJ 19 17 1 18,
   ⟨(some 20),(some (17,false)),(.len (.t 19))⟩,
   fN 21 17 1 3,
   iJ 22 17 1 21,
   ⟨(some 23),(some (17,false)),(.len (.t 22))⟩,
   ⟨(some 24),(some (17,false)),(.bin .neq (.t 20) (.t 23))⟩,
   mM 25 17 24,
   bK 26 25,
   fN 27 26 4 2,
   iJ 28 26 1 27,
   ⟨(some 29),(some (26,false)),(.len (.t 28))⟩,
   fN 30 26 4 3,
   iJ 31 26 1 30,
   ⟨(some 32),(some (26,false)),(.len (.t 31))⟩,
   ⟨(some 33),(some (26,false)),(.bin .neq (.t 29) (.t 32))⟩,
   mM 34 26 33,
   bK 35 34,
   fN 36 35 2 2,
   iJ 37 35 1 36,
   fN 38 35 2 3,
   iJ 39 35 1 38,
   ⟨(some 40),(some (35,false)),(.call 89 [(.t 37),(.t 39)])⟩,
   ⟨(some 41),(some (35,false)),(.un .not (.t 40))⟩,
   mM 42 35 41,
   bK 43 42,
   fN 44 43 3 2,
   iJ 45 43 1 44,
   fN 46 43 3 3,
   iJ 47 43 1 46,
   ⟨(some 48),(some (43,false)),(.call 90 [(.t 45),(.t 47)])⟩,
   ⟨(some 49),(some (43,false)),(.un .not (.t 48))⟩,
   mM 50 43 49,
   bK 51 50,
   fN 52 51 5 2,
   iJ 53 51 1 52,
   fN 54 51 5 3,
   iJ 55 51 1 54,
   ⟨(some 56),(some (51,false)),(.call 91 [(.t 53),(.t 55)])⟩,
   ⟨(some 57),(some (51,false)),(.un .not (.t 56))⟩,
   mM 58 51 57,
   bK 59 58,
   fN 60 59 6 2,
   iJ 61 59 1 60,
   fN 62 59 6 3,
   iJ 63 59 1 62,
   ⟨(some 64),(some (59,false)),(.call 92 [(.t 61),(.t 63)])⟩,
   ⟨(some 65),(some (59,false)),(.un .not (.t 64))⟩,
   mM 66 59 65] [10,11,12,13,14,15,16,17,18,19,20,21,22,23,24,25,26,27,28,29,30,31,32,33,34,35,36,37,38,39,40,41,42,43,44,45,46,47,48,49,50,51,52,53,54,55,56,57,58,59,60,61,62,63,64,65])
 (.cond (.t 66)
  (.seq
  (.reg [oO 4] [])
  .ret)
  .skip))
 (.seq
 (.seq
 (.reg [aGI 5 0] [])
 (.block 0
  (.loop
   (.seq
   (.seq
   (.reg [bK 67 5,
     oP 68 0 2,
     sN 69 1 68,
     qH 70 69,
     aGK 71 67 70] [67,68,69,70])
   (.cond (.t 71)
    .skip
    (.exit 0)))
   (.seq
   (.block 1
    (.seq
    (.dreg 7168 7392 [oP 74 0 2,
      sN 75 1 74,
      bK 76 5,
      qG 77 15 75 76,
      oQ 78 15 77,
      oP 79 0 3,
      sN 80 1 79,
      bK 81 5,
      qG 82 15 80 81,
      oQ 83 15 82,
      ⟨(some 6),none,(.alloc [(.int .i64 0),(.int .i64 0),(.int .i64 0),(.lst 0 true []),(.int .i64 0),(.int .i64 0),(.int .i64 0),(.int .i64 0),(.int .i64 0),(.int .i64 0),(.int .i64 0),(.int .i64 0),(.int .i64 0),(.int .i64 0),(.int .i64 0)])⟩,
      ⟨(some 7),none,(.alloc [(.int .i64 0),(.int .i64 0),(.int .i64 0),(.lst 0 true []),(.int .i64 0),(.int .i64 0),(.int .i64 0),(.int .i64 0),(.int .i64 0),(.int .i64 0),(.int .i64 0),(.int .i64 0),(.int .i64 0),(.int .i64 0),(.int .i64 0)])⟩,
      ⟨none,none,(.st 15 (.t 6) (.t 78))⟩,
      ⟨none,none,(.st 15 (.t 7) (.t 83))⟩] [74,75,76,77,78,79,80,81,82,83] [[],[0],[],[1,0,2],[3,2,0,1],[],[5],[],[6,5,7],[8,7,5,6],[],[],[4,1,0,2,3,10,11],[9,6,5,7,8,12,11,10,3,2,0,1,4]] [7168,7184,7200,7216,7232,7248,7264,7280,7296,7312,7328,7344,7360,7376])
    (.seq
    (.reg [oP 84 0 6,
      oQ 85 2 84,
      oP 86 0 7,
      oQ 87 2 86,
      ⟨(some 88),none,(.eqs true [(0,.i),(1,.i)] (.t 85) (.t 87))⟩,
      bK 89 88,
      fN 90 89 6 6,
      iJ 91 89 1 90,
      fN 92 89 6 7,
      iJ 93 89 1 92,
      ⟨(some 94),(some (89,false)),(.bin .neq (.t 91) (.t 93))⟩,
      mM 95 89 94,
      bK 96 95,
      fN 97 96 7 6,
      iJ 98 96 1 97,
      fN 99 96 7 7,
      iJ 100 96 1 99,
      ⟨(some 101),(some (96,false)),(.bin .neq (.t 98) (.t 100))⟩,
      mM 102 96 101,
      bK 103 102,
      fN 104 103 8 6,
      ⟨(some 105),(some (103,false)),(.ld true 2 (.t 104))⟩,
      fN 106 103 8 7,
      ⟨(some 107),(some (103,false)),(.ld true 2 (.t 106))⟩,
      ⟨(some 108),(some (103,false)),(.eqs true [(0,.i),(1,.i)] (.t 105) (.t 107))⟩,
      mM 109 103 108,
      bK 110 109,
      fN 111 110 10 6,
      ⟨(some 112),(some (110,false)),(.ld true 3 (.t 111))⟩,
      fN 113 110 10 7,
      ⟨(some 114),(some (110,false)),(.ld true 3 (.t 113))⟩,
      ⟨(some 115),(some (110,false)),(.eqs true [(0,.i),(1,.i),(2,.i)] (.t 112) (.t 114))⟩,
      mM 116 110 115,
      bK 117 116,
      fN 118 117 13 6,
      iJ 119 117 1 118,
      fN 120 117 13 7,
      iJ 121 117 1 120,
      ⟨(some 122),(some (117,false)),(.bin .neq (.t 119) (.t 121))⟩,
      mM 123 117 122,
      bK 124 123,
      fN 125 124 14 6,
      iJ 126 124 1 125,
      fN 127 124 14 7,
      iJ 128 124 1 127,
      ⟨(some 129),(some (124,false)),(.bin .neq (.t 126) (.t 128))⟩,
      mM 130 124 129,
      bK 131 130,
      fN 132 131 2 6,
      ⟨(some 133),(some (131,false)),(.ld true 4 (.t 132))⟩,
      fN 134 131 2 7,
      ⟨(some 135),(some (131,false)),(.ld true 4 (.t 134))⟩,
      ⟨(some 136),(some (131,false)),(.call 93 [(.t 133),(.t 135)])⟩,
      ⟨(some 137),(some (131,false)),(.un .not (.t 136))⟩,
      mM 138 131 137] [84,85,86,87,88,89,90,91,92,93,94,95,96,97,98,99,100,101,102,103,104,105,106,107,108,109,110,111,112,113,114,115,116,117,118,119,120,121,122,123,124,125,126,127,128,129,130,131,132,133,134,135,136,137])
    (.cond (.t 138)
     (.seq
     (.reg [oO 4] [])
     .ret)
     .skip))))
   (.reg [bK 72 5,
     aGH 73 72 1,
     bK 5 73] [72,73]))))))
 (.seq
 (.seq
 (.reg [aGI 8 0] [])
 (.block 2
  (.loop
   (.seq
   (.seq
   (.reg [bK 139 8,
     oP 140 1 2,
     sN 141 1 140,
     qH 142 141,
     aGK 143 139 142] [139,140,141,142])
   (.cond (.t 143)
    .skip
    (.exit 2)))
   (.seq
   (.block 3
    (.seq
    (.dreg 13312 13488 [oP 146 1 2,
      sN 147 1 146,
      bK 148 8,
      qG 149 9 147 148,
      oQ 150 9 149,
      oP 151 1 3,
      sN 152 1 151,
      bK 153 8,
      qG 154 9 152 153,
      oQ 155 9 154,
      ⟨(some 156),none,(.eqs true [(0,.i),(1,.i),(2,.s),(3,.i),(4,.i),(5,.i),(6,.i),(7,.i),(8,.i)] (.t 150) (.t 155))⟩] [146,147,148,149,150,151,152,153,154,155] [[],[0],[],[1,0,2],[3,2,0,1],[],[5],[],[6,5,7],[8,7,5,6],[4,1,0,2,3,9,6,5,7,8]] [13312,13328,13344,13360,13376,13392,13408,13424,13440,13456,13472])
    (.cond (.t 156)
     (.seq
     (.reg [oO 4] [])
     .ret)
     .skip)))
   (.reg [bK 144 8,
     aGH 145 144 1,
     bK 8 145] [144,145]))))))
 (.seq
 (.seq
 (.reg [aGI 9 0] [])
 (.block 4
  (.loop
   (.seq
   (.seq
   (.reg [bK 157 9,
     oP 158 4 2,
     sN 159 1 158,
     qH 160 159,
     aGK 161 157 160] [157,158,159,160])
   (.cond (.t 161)
    .skip
    (.exit 4)))
   (.seq
   (.block 5
    (.seq
    (.dreg 18432 18624 [oP 164 4 2,
      sN 165 1 164,
      bK 166 9,
      qG 167 3 165 166,
      oQ 168 3 167,
      oP 169 4 3,
      sN 170 1 169,
      bK 171 9,
      qG 172 3 170 171,
      oQ 173 3 172,
      ⟨(some 174),none,(.call 94 [(.t 168),(.t 173)])⟩,
      ⟨(some 175),none,(.un .not (.t 174))⟩] [164,165,166,167,168,169,170,171,172,173,174] [[],[0],[],[1,0,2],[3,2,0,1],[],[5],[],[6,5,7],[8,7,5,6],[4,1,0,2,3,9,6,5,7,8],[10,8,7,5,6,9,3,2,0,1,4]] [18432,18448,18464,18480,18496,18512,18528,18544,18560,18576,18592,18608])
    (.cond (.t 175)
     (.seq
     (.reg [oO 4] [])
     .ret)
     .skip)))
   (.reg [bK 162 9,
     aGH 163 162 1,
     bK 9 163] [162,163]))))))
 (.seq
 (.reg [⟨(some 4),none,(.mv (.c (.bool true)))⟩] [])
 .ret))))))
theorem bPX:dF Go.Proofs.Tryz.prog Go.Proofs.Tryz.f18.ntmps ((Go.Proofs.Tryz.f18.body).getD .skip)=some (strip bSD):=by kernel_rfl
def mkF(p:Int×Int):Fl:=⟨p.1,p.2,emT,0,0,0,0,0,0,0,0,0⟩
structure bT3(l:List (Int×Int))(z:List Zn)(g:List Gr):Prop where
 loc:aCN l=true
 grp:mV g=true
 chg:aMM g=true
 zon:aU5 z
theorem iM {p:Nat->Bool} :∀ {n i:Nat},bC p n=true->i<n->p i=false
 |0,_,_,h=>absurd h (by omega)
 |n+1,i,h,hi=>by
  simp only [bC,Bool.and_eq_true,zC] at h
  by_cases e:i=n
  ·subst e;first |exact h.1 |exact h.2
  ·exact iM (n:=n) (by first |exact h.1 |exact h.2) (by omega)
end Go.Proofs.YtmhapcbjjpadnaaGreat
