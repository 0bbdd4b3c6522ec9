/- Caches. -/
import Derived.Test.YtmhapcbjjpadnaaGreatG6o
import Derived.Test.YtmhapcbjjpadnaaGreatG3o
import Derived.Test.YtmhapcbjjpadnaaGreatK7o
import Derived.Tactics
import Derived.Tactics2
import Derived.Defers
import Derived.Recover
import Derived.Test.YtmhapcbjjpadnaaGreatG1o
import Derived.Shelf.Strings.Repeat
import Derived.Test.YtmhapcbjjpadnaaGreatG5o
import Derived.KernelRfl
set_option linter.all false
set_option maxHeartbeats 1000000
set_option maxRecDepth 40000
open Array renaming replicate→zO
open Bool renaming and_eq_true→zH,cond_false_right→zI,cond_true_left→zJ,not_eq_false'→zK,not_eq_true'→zL,not_not→zN
open Int renaming toNat_natCast→zP
open List renaming replicate_zero→zD,length_nil→zE,exists_cons_of_ne_nil→zF,getD_eq_getElem?_getD→zM
open Nat renaming eq_of_beq_eq_true→zA,le_of_ble_eq_true→zC,zero_add→zG
namespace Go.Proofs.YtmhapcbjjpadnaaGreat
open Go Go.Sk Go.RowKit
theorem tG:Quiet Tryz.prog 140:=by
 intro e w;refine callsD_of_wpS Tryz.func140 rfl λC B z=>?_;have m:(e++zO (6-e.size) undef).size≥6:=by simp;omega
 show Code.wpS _ _ _ { tmps:=e++zO (6-e.size) undef,defers:= [] } _ _;generalize e++zO (6-e.size) undef=j at m;apply wpS_seq;apply wpS_region;have h2:2<j.size:=by omega
 have f:3<j.size:=by omega
 simp [wpOpsS,go_sem,recoverD,z,Exit.thenS,h2,f];refine wpS_cond (t:=false) (by simp [Act.eval,h2,f]) ?_;simp only [Bool.false_eq_true,if_false];refine wpS_of_wp (wp_skip ?_);cases C
 simp_all [bodyPostS,results,Tryz.f140]
def bAA:List (List V)->Option (List Int)
 | []=>some []
 | [.int .i64 x]::r=>match bAA r with
   |some l=>some (x::l)
   |none=>none
 |_=>none
theorem aQB:∀ {r:List (List V)} {l:List Int},bAA r=some l->r=aB l:=by
 intro r
 induction r with
 |nil=>intro l h;cases h;rfl
 |cons x r j=>
  intro l h;unfold bAA at h;split at h
  ·rename_i e;cases e
  ·rename_i n m e;cases e
   split at h
   ·rename_i l' f;cases h
    rw [j f];rfl
   ·cases h
  ·cases h
def aOL:V->Option (List Int)
 | .lst e _ rows=>match bAA rows with
   |some []=>some []
   |some (x::l)=>bif Nat.beq e 1 then some (x::l) else none
   |none=>none
 |_=>none
theorem aA3 {v:V} {l:List Int} (h:aOL v=some l):uY v (.lst 1 false (aB l)):=by
 unfold aOL at h;split at h
 ·split at h
  ·rename_i e;cases h
   rw [aQB e];exact .nils
  ·rename_i e;rw [aQB e]
   cases f:Nat.beq _ 1 with
   |true=>rw [f] at h;cases h;rw [zA f];exact .weak
   |false=>rw [f] at h;cases h
  ·cases h
 ·cases h
def bAB:List (List V)->Option (List Zn)
 | []=>some []
 | [.int .i64 a,.int .i64 b,.int .i64 c,.int .i64 d,.int .i64 e,fr]::r=>match aOL fr with
   |some l=>match bAB r with
    |some z=>some (⟨a,b,c,d,e,l,false⟩::z)
    |none=>none
   |none=>none
 |_=>none
theorem bAC:∀ {r:List (List V)} {l:List Zn},bAB r=some l->r.length=(aJ l).length/\∀(i:Nat) (x y:List V),r[i]? =some x->(aJ l)[i]? =some y->mC x y:=by
 intro r
 induction r with
 |nil=>intro l h;cases h;exact⟨rfl,by simp⟩
 |cons x r E=>
  intro l h;unfold bAB at h;split at h
  ·rename_i e;cases e
  ·rename_i a b c d e G H B;cases B
   split at h
   ·rename_i F C;split at h
    ·rename_i z D;cases h
     obtain⟨m,h2⟩:=E D;refine⟨by simp [aJ] at m⊢;exact m,λi x y f j=>?_⟩
     cases i with
     |zero=> simp only [aJ,List.map_cons,List.getElem?_cons_zero,zse] at f j;subst f j;exact .cons (.refl _) (.cons (.refl _) (.cons (.refl _) (.cons (.refl _) (.cons (.refl _) (.cons (aA3 C) .nil)))))
     |succ i=>exact h2 i x y (by simpa using f) (by simpa [aJ] using j)
    ·cases h
   ·cases h
  ·cases h
def aLI:V->Option (List Zn)
 | .lst e _ rows=>match bAB rows with
   |some l=>bif Nat.beq e 6||l.isEmpty then some l else none
   |none=>none
 |_=>none
theorem aEX {v:V} {l:List Zn} (h:aLI v=some l):uY v (.lst 6 false (aJ l)):=by
 unfold aLI at h;split at h
 ·rename_i e t m;split at h
  ·rename_i l' z;obtain⟨j,h2⟩:=bAC z
   cases f:(Nat.beq e 6||l'.isEmpty) with
   |false=>rw [f] at h;cases h
   |true=>
    rw [f] at h;cases h
    refine .lst ?_ (by simp) j h2;rw [Bool.or_eq_true] at f;rcases f with f |f
    ·exact .inl (zA f)
    ·right;rw [List.isEmpty_iff.1 f] at j;exact List.length_eq_zero_iff.1 (by rw [j];rfl)
  ·cases h
 ·cases h
def aHO:V->Option Ls
 | .agg [a,i,r]=>match aOL a with
   |some A=>match aOL i with
    |some I=>match aOL r with
     |some R=>some ⟨A,I,R⟩
     |none=>none
    |none=>none
   |none=>none
 |_=>none
theorem aA4 {v:V} {l:Ls} (h:aHO v=some l):uY v (.agg l.c):=by
 unfold aHO at h;split at h
 ·split at h
  ·rename_i e;split at h
   ·rename_i h2;split at h
    ·rename_i f;cases h
     exact .aggs (.cons (aA3 e) (.cons (aA3 h2) (.cons (aA3 f) .nil)))
    ·cases h
   ·cases h
  ·cases h
 ·cases h
def smZ(l:List Zn):Bool:=Nat.ble l.length 100000&&l.all λz=>Nat.ble z.free.length 100000
theorem aPJ {l:List Zn} (h:smZ l=true):fO l:=by rw [smZ,zH] at h;exact⟨zC h.1,λz e=>zC (List.all_eq_true.1 h.2 z e)⟩
def smL(l:Ls):Bool:=Nat.ble l.A.length 10000&&(Nat.ble l.I.length 10000&&Nat.ble l.R.length 10000)
theorem aKE {l:Ls} (h:smL l=true):eD l:=by rw [smL,zH,zH] at h;exact⟨zC h.1,zC h.2.1,zC h.2.2⟩
def bG8(f:FuncId)(ob0:List Sk.Obj)(args:List V):Option (V×List Sk.Obj):=
 match ob0 with
 |_::_=>none
 | []=>bif Nat.beq f 130 then(match args with
  | [v]=>match aOL v with
    |some s=>bif Nat.ble s.length 100000 then some (.tup [.lst 6 false (aJ (newF s).1),.int .i64 (newF s).2],[]) else none
    |none=>none
  |_=>none) else
   bif Nat.beq f 109 then(match args with
    | [v,.int .i64 p,.bool u]=>match aLI v with
      |some l=>bif smZ l then some (.tup [.lst 6 false (aJ (cV (l.map iX) l p u).1),.int .i64 (cV (l.map iX) l p u).2.1,.int .i64 (cV (l.map iX) l p u).2.2],[]) else none
      |none=>none
    |_=>none) else
   bif Nat.beq f 247 then(match args with
    | [v,.int .i64 p]=>match aLI v with
      |some l=>bif smZ l then some (.tup [.lst 6 false (aJ (eN (l.map iX) l p).1),.int .i64 (eN (l.map iX) l p).2],[]) else none
      |none=>none
    |_=>none) else
   bif Nat.beq f 211 then(match args with
    | [v]=>match aLI v with
      |some l=>bif smZ l then some (.bool (aX l),[]) else none
      |none=>none
    |_=>none) else
   bif Nat.beq f 231 then(match args with
    | [v]=>match aHO v with
      |some l=>bif smL l then some (.bool (dM l),[]) else none
      |none=>none
    |_=>none) else
   bif Nat.beq f 149 then(match args with
    | [v,.int .i64 p,.bool u]=>match aHO v with
      |some l=>bif smL l then some (.tup [.agg (aSP l p u).1.c,.int .i64 (aSP l p u).2],[]) else none
      |none=>none
    |_=>none) else
   bif Nat.beq f 245 then(match args with
    | [v,.int .i64 p]=>match aHO v with
      |some l=>bif smL l then some (.tup [.agg (kE l p).1.c,.int .i64 (kE l p).2],[]) else none
      |none=>none
    |_=>none) else
   bif Nat.beq f 201 then(match args with
    | [v,.int .i64 p]=>match aHO v with
      |some l=>bif smL l then some (.tup [.agg (nM l p).1.c,.int .i64 (nM l p).2],[]) else none
      |none=>none
    |_=>none) else none
theorem hY {α:Type} {b:Bool} {x y:α} (h:(bif b then some x else none)=some y):b=true/\x=y:=by
 cases b with
 |true=>exact⟨rfl,zsi h⟩
 |false=>cases h
theorem bKP(f:FuncId)(ob0:List Sk.Obj)(args:List V)(v:V)(B:List Sk.Obj)(h:bG8 f ob0 args=some (v,B)):aN Tryz.prog f ob0 args v B:=by
 unfold bG8 at h;split at h
 ·cases h
 cases e:Nat.beq f 130 with
 |true=>
  rw [e] at h;obtain rfl:=zA e;dsimp only [zct] at h;split at h
  ·split at h
   ·rename_i m;obtain⟨j,z⟩:=hY h;cases z
    exact(bLM _ _ (zC j)).le (.cons (aA3 m) .nil) (.refl _) (oS.refl _)
   ·cases h
  ·cases h
 |false=>
 rw [e] at h;dsimp only [zcf] at h
 cases e:Nat.beq f 109 with
 |true=>
  rw [e] at h;obtain rfl:=zA e;dsimp only [zct] at h;split at h
  ·split at h
   ·rename_i m;obtain⟨j,z⟩:=hY h;cases z
    exact(bE7 _ _ _ _ (aPJ j)).le (.cons (aEX m) (.refl _)) (.refl _) (oS.refl _)
   ·cases h
  ·cases h
 |false=>
 rw [e] at h;dsimp only [zcf] at h
 cases e:Nat.beq f 247 with
 |true=>
  rw [e] at h;obtain rfl:=zA e;dsimp only [zct] at h;split at h
  ·split at h
   ·rename_i m;obtain⟨j,z⟩:=hY h;cases z
    exact(bEP _ _ _ (aPJ j)).le (.cons (aEX m) (.refl _)) (.refl _) (oS.refl _)
   ·cases h
  ·cases h
 |false=>
 rw [e] at h;dsimp only [zcf] at h
 cases e:Nat.beq f 211 with
 |true=>
  rw [e] at h;obtain rfl:=zA e;dsimp only [zct] at h;split at h
  ·split at h
   ·rename_i m;obtain⟨j,z⟩:=hY h;cases z
    exact(aXI _ _ (aPJ j)).le (.cons (aEX m) (.refl _)) (.refl _) (oS.refl _)
   ·cases h
  ·cases h
 |false=>
 rw [e] at h;dsimp only [zcf] at h
 cases e:Nat.beq f 231 with
 |true=>
  rw [e] at h;obtain rfl:=zA e;dsimp only [zct] at h;split at h
  ·split at h
   ·rename_i m;obtain⟨j,z⟩:=hY h;cases z
    exact(aRC _ (aKE j)).le (.cons (aA4 m) (.refl _)) (.refl _) (oS.refl _)
   ·cases h
  ·cases h
 |false=>
 rw [e] at h;dsimp only [zcf] at h
 cases e:Nat.beq f 149 with
 |true=>
  rw [e] at h;obtain rfl:=zA e;dsimp only [zct] at h;split at h
  ·split at h
   ·rename_i m;obtain⟨j,z⟩:=hY h;cases z
    exact(bLP _ _ _ (aKE j)).le (.cons (aA4 m) (.refl _)) (.refl _) (oS.refl _)
   ·cases h
  ·cases h
 |false=>
 rw [e] at h;dsimp only [zcf] at h
 cases e:Nat.beq f 245 with
 |true=>
  rw [e] at h;obtain rfl:=zA e;dsimp only [zct] at h;split at h
  ·split at h
   ·rename_i m;obtain⟨j,z⟩:=hY h;cases z
    exact(bEO _ _ (aKE j)).le (.cons (aA4 m) (.refl _)) (.refl _) (oS.refl _)
   ·cases h
  ·cases h
 |false=>
 rw [e] at h;dsimp only [zcf] at h
 cases e:Nat.beq f 201 with
 |true=>
  rw [e] at h;obtain rfl:=zA e;dsimp only [zct] at h;split at h
  ·split at h
   ·rename_i m;obtain⟨j,z⟩:=hY h;cases z
    exact(bEF _ _ (aKE j)).le (.cons (aA4 m) (.refl _)) (.refl _) (oS.refl _)
   ·cases h
  ·cases h
 |false=>
 rw [e] at h;cases h
theorem aXB(e:List (List V))(t:Bool)(f:e.length*136<=140737488355328):aN Tryz.prog 185 [] [.lst 15 t e] (.sl 0 0 e.length) [.row 15 e]:=by
 refine aN.lst_cases (λj=>?_) (λz a cap=>?_)
 ·obtain⟨r,B,rfl⟩:=zF j;refine cG Tryz.func185 ?_;refine Wk ?_;refine cC (by simp only [zD,zE,zG];omega) (by simp only [zD,zE,zG];exact f) ?_;refine Wk ?_;refine⟨[some 1],?_,rfl,?_,rfl,?_⟩
  all_goals repeat' (first |exact trivial |rfl |exact .inl rfl |exact .inr rfl |exact id |exact zbc |apply And.intro)
  simp
 ·subst z
  cases a with
  |none=> refine cG Tryz.func185 ?_;refine Wk ?_;exact⟨[none],Cl,rfl,Cl,rfl,Cl⟩
  |some m=> refine cG Tryz.func185 ?_;refine Wk ?_;exact⟨[some 1],Cl,rfl,Cl,rfl,Cl⟩
theorem aXC(e:List (List V))(t:Bool)(f:e.length*80<=140737488355328):aN Tryz.prog 186 [] [.lst 9 t e] (.sl 0 0 e.length) [.row 9 e]:=by
 refine aN.lst_cases (λj=>?_) (λz a cap=>?_)
 ·obtain⟨r,B,rfl⟩:=zF j;refine cG Tryz.func186 ?_;refine Wk ?_;refine cC (by simp only [zD,zE,zG];omega) (by simp only [zD,zE,zG];exact f) ?_;refine Wk ?_;refine⟨[some 1],?_,rfl,?_,rfl,?_⟩
  all_goals repeat' (first |exact trivial |rfl |exact .inl rfl |exact .inr rfl |exact id |exact zbc |apply And.intro)
  simp
 ·subst z
  cases a with
  |none=> refine cG Tryz.func186 ?_;refine Wk ?_;exact⟨[none],Cl,rfl,Cl,rfl,Cl⟩
  |some m=> refine cG Tryz.func186 ?_;refine Wk ?_;exact⟨[some 1],Cl,rfl,Cl,rfl,Cl⟩
theorem aRA(e:List (List V))(t:Bool)(f:e.length*24<=140737488355328):aN Tryz.prog 188 [] [.lst 3 t e] (.sl 0 0 e.length) [.row 3 e]:=by
 refine aN.lst_cases (λj=>?_) (λz a cap=>?_)
 ·obtain⟨r,B,rfl⟩:=zF j;refine cG Tryz.func188 ?_;refine Wk ?_;refine cC (by simp only [zD,zE,zG];omega) (by simp only [zD,zE,zG];exact f) ?_;refine Wk ?_;refine⟨[some 1],?_,rfl,?_,rfl,?_⟩
  all_goals repeat' (first |exact trivial |rfl |exact .inl rfl |exact .inr rfl |exact id |exact zbc |apply And.intro)
  simp
 ·subst z
  cases a with
  |none=> refine cG Tryz.func188 ?_;refine Wk ?_;exact⟨[none],Cl,rfl,Cl,rfl,Cl⟩
  |some m=> refine cG Tryz.func188 ?_;refine Wk ?_;exact⟨[some 1],Cl,rfl,Cl,rfl,Cl⟩
theorem aXD(e:List (List V))(t:Bool)(f:e.length*72<=140737488355328):aN Tryz.prog 189 [] [.lst 3 t e] (.sl 0 0 e.length) [.row 3 e]:=by
 refine aN.lst_cases (λj=>?_) (λz a cap=>?_)
 ·obtain⟨r,B,rfl⟩:=zF j;refine cG Tryz.func189 ?_;refine Wk ?_;refine cC (by simp only [zD,zE,zG];omega) (by simp only [zD,zE,zG];exact f) ?_;refine Wk ?_;refine⟨[some 1],?_,rfl,?_,rfl,?_⟩
  all_goals repeat' (first |exact trivial |rfl |exact .inl rfl |exact .inr rfl |exact id |exact zbc |apply And.intro)
  simp
 ·subst z
  cases a with
  |none=> refine cG Tryz.func189 ?_;refine Wk ?_;exact⟨[none],Cl,rfl,Cl,rfl,Cl⟩
  |some m=> refine cG Tryz.func189 ?_;refine Wk ?_;exact⟨[some 1],Cl,rfl,Cl,rfl,Cl⟩
theorem aMN(e:List (List V))(t:Bool)(f:e.length*32<=140737488355328):aN Tryz.prog 190 [] [.lst 5 t e] (.sl 0 0 e.length) [.row 5 e]:=by
 refine aN.lst_cases (λj=>?_) (λz a cap=>?_)
 ·obtain⟨r,B,rfl⟩:=zF j;refine cG Tryz.func190 ?_;refine Wk ?_;refine cC (by simp only [zD,zE,zG];omega) (by simp only [zD,zE,zG];exact f) ?_;refine Wk ?_;refine⟨[some 1],?_,rfl,?_,rfl,?_⟩
  all_goals repeat' (first |exact trivial |rfl |exact .inl rfl |exact .inr rfl |exact id |exact zbc |apply And.intro)
  simp
 ·subst z
  cases a with
  |none=> refine cG Tryz.func190 ?_;refine Wk ?_;exact⟨[none],Cl,rfl,Cl,rfl,Cl⟩
  |some m=> refine cG Tryz.func190 ?_;refine Wk ?_;exact⟨[some 1],Cl,rfl,Cl,rfl,Cl⟩
theorem vN(e:List (List V))(t:Bool)(f:e.length*8<=140737488355328):aN Tryz.prog 107 [] [.lst 1 t e] (.lst 1 false e) []:=by exact(rQ e t f).lstv
theorem bHD(e:List (List V))(t:Bool)(f:e.length*136<=140737488355328):aN Tryz.prog 185 [] [.lst 15 t e] (.lst 15 false e) []:=by exact(aXB e t f).lstv
theorem bHE(e:List (List V))(t:Bool)(f:e.length*80<=140737488355328):aN Tryz.prog 186 [] [.lst 9 t e] (.lst 9 false e) []:=by exact(aXC e t f).lstv
theorem bHF(e:List (List V))(t:Bool)(f:e.length*64<=140737488355328):aN Tryz.prog 187 [] [.lst 6 t e] (.lst 6 false e) []:=by exact(aR9 e t f).lstv
theorem bHG(e:List (List V))(t:Bool)(f:e.length*24<=140737488355328):aN Tryz.prog 188 [] [.lst 3 t e] (.lst 3 false e) []:=by exact(aRA e t f).lstv
theorem bHH(e:List (List V))(t:Bool)(f:e.length*72<=140737488355328):aN Tryz.prog 189 [] [.lst 3 t e] (.lst 3 false e) []:=by exact(aXD e t f).lstv
theorem bHI(e:List (List V))(t:Bool)(f:e.length*32<=140737488355328):aN Tryz.prog 190 [] [.lst 5 t e] (.lst 5 false e) []:=by exact(aMN e t f).lstv
open Go.Shelf
def mY:Go.Shelf.Ren:=⟨λ|105=>158 |212=>254 |99=>255 |165=>256 |166=>257 |170=>258 |169=>259 |263=>321 |264=>322 |206=>323 |240=>324 |241=>325 |276=>351 |277=>352 |n=>n,λ|9=>9 |3=>3 |4=>4 |20=>20 |0=>0 |46=>264 |109=>265 |5=>5 |72=>270 |76=>273 |51=>315 |146=>316 |53=>114 |148=>318 |70=>268 |37=>106 |75=>272 |127=>320 |164=>333 |80=>275 |n=>n,λ|n=>n⟩
theorem mX:Go.Proofs.Lays.n105 Tryz.prog mY where
 mixed:=by kernel_rfl
 f99:=Tryz.func255.trans (congrArg some (by kernel_rfl))
 f105:=Tryz.func158.trans (congrArg some (by kernel_rfl))
 f165:=Tryz.func256.trans (congrArg some (by kernel_rfl))
 f166:=Tryz.func257.trans (congrArg some (by kernel_rfl))
 f169:=Tryz.func259.trans (congrArg some (by kernel_rfl))
 f170:=Tryz.func258.trans (congrArg some (by kernel_rfl))
 f206:=Tryz.func323.trans (congrArg some (by kernel_rfl))
 f212:=Tryz.func254.trans (congrArg some (by kernel_rfl))
 f240:=Tryz.func324.trans (congrArg some (by kernel_rfl))
 f241:=Tryz.func325.trans (congrArg some (by kernel_rfl))
 f263:=Tryz.func321.trans (congrArg some (by kernel_rfl))
 f264:=Tryz.func322.trans (congrArg some (by kernel_rfl))
 f276:=Tryz.func351.trans (congrArg some (by kernel_rfl))
 f277:=Tryz.func352.trans (congrArg some (by kernel_rfl))
 t0:=Tryz.underlying0
 a0:=Tryz.isAgg0
 z0:=Tryz.sizeOf0
 v0:=Tryz.zeroValue0
 t3:=Tryz.underlying3
 a3:=Tryz.isAgg3
 z3:=Tryz.sizeOf3
 v3:=Tryz.zeroValue3
 t4:=Tryz.underlying4
 a4:=Tryz.isAgg4
 z4:=Tryz.sizeOf4
 v4:=Tryz.zeroValue4
 t5:=Tryz.underlying5
 a5:=Tryz.isAgg5
 z5:=Tryz.sizeOf5
 v5:=Tryz.zeroValue5
 t9:=Tryz.underlying9
 a9:=Tryz.isAgg9
 z9:=Tryz.sizeOf9
 v9:=Tryz.zeroValue9
 t20:=Tryz.underlying20
 a20:=Tryz.isAgg20
 z20:=Tryz.sizeOf20
 v20:=Tryz.zeroValue20
 t37:=Tryz.underlying106
 a37:=Tryz.isAgg106
 z37:=Tryz.sizeOf106
 v37:=Tryz.zeroValue106
 t46:=Tryz.underlying264
 a46:=Tryz.isAgg264
 z46:=Tryz.sizeOf264
 v46:=Tryz.zeroValue264
 t51:=Tryz.underlying315
 a51:=Tryz.isAgg315
 z51:=Tryz.sizeOf315
 v51:=Tryz.zeroValue315
 t53:=Tryz.underlying114
 a53:=Tryz.isAgg114
 z53:=Tryz.sizeOf114
 v53:=Tryz.zeroValue114
 t70:=Tryz.underlying268
 a70:=Tryz.isAgg268
 z70:=Tryz.sizeOf268
 v70:=Tryz.zeroValue268
 t72:=Tryz.underlying270
 a72:=Tryz.isAgg270
 z72:=Tryz.sizeOf270
 v72:=Tryz.zeroValue270
 t75:=Tryz.underlying272
 a75:=Tryz.isAgg272
 z75:=Tryz.sizeOf272
 v75:=Tryz.zeroValue272
 t76:=Tryz.underlying273
 a76:=Tryz.isAgg273
 z76:=Tryz.sizeOf273
 v76:=Tryz.zeroValue273
 t109:=Tryz.underlying265
 a109:=Tryz.isAgg265
 z109:=Tryz.sizeOf265
 v109:=Tryz.zeroValue265
 t127:=Tryz.underlying320
 a127:=Tryz.isAgg320
 z127:=Tryz.sizeOf320
 v127:=Tryz.zeroValue320
 t146:=Tryz.underlying316
 a146:=Tryz.isAgg316
 z146:=Tryz.sizeOf316
 v146:=Tryz.zeroValue316
 t148:=Tryz.underlying318
 a148:=Tryz.isAgg318
 z148:=Tryz.sizeOf318
 v148:=Tryz.zeroValue318
 t164:=Tryz.underlying333
 a164:=Tryz.isAgg333
 z164:=Tryz.sizeOf333
 v164:=Tryz.zeroValue333
theorem aLT:Builder.Extra Tryz.prog mY where
 sizeBuilder:=by kernel_rfl
 liesBuilder:=by kernel_rfl
 t5:=mX.t5
 a5:=mX.a5
 z5:=mX.z5
 v5:=mX.v5
 infoByte:=by kernel_rfl
 cellsByte:=by kernel_rfl
 sizeByte:=by kernel_rfl
 neB5:=by decide
theorem bAR:mY.f 105=158:=by kernel_rfl
def bNY(s:ByteArray)(c:Nat):ByteArray:=⟨(Lib.repeatL s.data.toList c).toArray⟩
theorem bLV(s:ByteArray)(c:Nat)(H:c<=9223372036854775807)(z:s.size*c<=140737488355328):aN Tryz.prog 158 [] [.str s,.int .i64 (c:Int)] (.str (bNY s c)) []:=by
 intro U σ w f G J j
 obtain⟨c0,F,rfl⟩:∃a b,f= #[a,b]:=by
  rcases f with ⟨L⟩
  match L,J with
  | [a,b],_=>exact⟨a,b,rfl⟩
 have D:=j 0 _ c0 rfl rfl;have E:=j 1 _ F rfl rfl;cases D
 cases E
 have B:=Any.strings_Repeat mX aLT s c w H z;rw [bAR] at B;refine B.mono ?_;rintro e K ⟨rfl,m⟩;have C:bZ (λ_=>False) w K:=⟨m.os,m.tape,m.output,m.size,λb h _=>m.block b h⟩;exact⟨_,σ,rfl,G.of_keep C,.str _,bJ.of_keep C⟩
def bFX(f:Nat):Nat:=bif Nat.beq f 107 then 1 else bif Nat.beq f 185 then 15 else bif Nat.beq f 186 then 9 else bif Nat.beq f 187 then 6 else bif Nat.beq f 188 then 3 else bif Nat.beq f 189 then 3 else bif Nat.beq f 190 then 5 else 0
def bFW(own:Bool)(es:Nat)(args:List V):Option (V×List Sk.Obj):=match args with
 | [.lst _ _ []]=>match own with
   |true=>some (.sl 0 0 0,[.row es []])
   |false=>some (.lst es false [],[])
 | [.lst e _ (x::xs)]=>match own with
   |true=>bif Nat.beq e es&&Nat.ble (x::xs).length 100000 then some (.sl 0 0 (x::xs).length,[.row es (x::xs)]) else none
   |false=>bif Nat.beq e es&&Nat.ble (x::xs).length 100000 then some (.lst es false (x::xs),[]) else none
 |_=>none
theorem qO {f es:Nat} {C:Bool} (g:∀(e:List (List V)) (t:Bool),e.length<=100000->aN Tryz.prog f [] [.lst es t e] (.lst es false e) [])(h:∀(e:List (List V)) (t:Bool),e.length<=100000->aN Tryz.prog f [] [.lst es t e] (.sl 0 0 e.length) [.row es e]) {args:List V} {v:V} {z:List Sk.Obj} (j:bFW C es args=some (v,z)):aN Tryz.prog f [] args v z:=by
 unfold bFW at j;split at j
 ·split at j
  ·cases j
   exact(h [] false (by simp)).le (.cons .nils .nil) (.refl _) (oS.refl _)
  ·cases j
   exact(g [] false (by simp)).le (.cons .nils .nil) (.refl _) (oS.refl _)
 ·split at j
  ·obtain⟨m,B⟩:=hY j;rw [zH] at m;cases B
   rw [zA m.1];exact h _ _ (zC m.2)
  ·obtain⟨m,B⟩:=hY j;rw [zH] at m;cases B
   rw [zA m.1];exact g _ _ (zC m.2)
 ·cases j
def bG9(own:Bool)(f:FuncId)(ob0:List Sk.Obj)(args:List V):Option (V×List Sk.Obj):=
 match ob0 with
 |_::_=>none
 | []=>match bFX f with
   |0=>bG8 f [] args
   |es+1=>bFW own (es+1) args
theorem bKQ(D:Bool)(f:FuncId)(ob0:List Sk.Obj)(args:List V)(v:V)(C:List Sk.Obj)(h:bG9 D f ob0 args=some (v,C)):aN Tryz.prog f ob0 args v C:=by
 unfold bG9 at h;split at h
 ·cases h
 ·split at h
  ·exact bKP _ _ _ _ _ h
  ·rename_i es j;unfold bFX at j
   cases m:Nat.beq f 107 with
   |true=>
    obtain rfl:=zA m;have z:1=es+1:=by rw [m] at j;exact j
    rw [<-z] at h;exact qO (λe t B=>vN e t (by omega)) (λe t B=>rQ e t (by omega)) h
   |false=>
   rw [m] at j;dsimp only [zcf] at j
   cases m:Nat.beq f 185 with
   |true=>
    obtain rfl:=zA m;have z:15=es+1:=by rw [m] at j;exact j
    rw [<-z] at h;exact qO (λe t B=>bHD e t (by omega)) (λe t B=>aXB e t (by omega)) h
   |false=>
   rw [m] at j;dsimp only [zcf] at j
   cases m:Nat.beq f 186 with
   |true=>
    obtain rfl:=zA m;have z:9=es+1:=by rw [m] at j;exact j
    rw [<-z] at h;exact qO (λe t B=>bHE e t (by omega)) (λe t B=>aXC e t (by omega)) h
   |false=>
   rw [m] at j;dsimp only [zcf] at j
   cases m:Nat.beq f 187 with
   |true=>
    obtain rfl:=zA m;have z:6=es+1:=by rw [m] at j;exact j
    rw [<-z] at h;exact qO (λe t B=>bHF e t (by omega)) (λe t B=>aR9 e t (by omega)) h
   |false=>
   rw [m] at j;dsimp only [zcf] at j
   cases m:Nat.beq f 188 with
   |true=>
    obtain rfl:=zA m;have z:3=es+1:=by rw [m] at j;exact j
    rw [<-z] at h;exact qO (λe t B=>bHG e t (by omega)) (λe t B=>aRA e t (by omega)) h
   |false=>
   rw [m] at j;dsimp only [zcf] at j
   cases m:Nat.beq f 189 with
   |true=>
    obtain rfl:=zA m;have z:3=es+1:=by rw [m] at j;exact j
    rw [<-z] at h;exact qO (λe t B=>bHH e t (by omega)) (λe t B=>aXD e t (by omega)) h
   |false=>
   rw [m] at j;dsimp only [zcf] at j
   cases m:Nat.beq f 190 with
   |true=>
    obtain rfl:=zA m;have z:5=es+1:=by rw [m] at j;exact j
    rw [<-z] at h;exact qO (λe t B=>bHI e t (by omega)) (λe t B=>aMN e t (by omega)) h
   |false=>
   rw [m] at j;dsimp only [zcf] at j;cases j
def bGA(own:Bool)(f:FuncId)(ob0:List Sk.Obj)(args:List V):Option (V×List Sk.Obj):=
 match Nat.beq f 158 with
 |false=>bG9 own f ob0 args
 |true=>match ob0,args with
  | [],[.str s,.int .i64 (.ofNat c)]=>bif Nat.ble c 9223372036854775807&&Nat.ble (s.size*c) 140737488355328 then some (.str (bNY s c),[]) else none
  |_,_=>none
theorem bKR(m:Bool)(f:FuncId)(ob0:List Sk.Obj)(args:List V)(v:V)(e:List Sk.Obj)(h:bGA m f ob0 args=some (v,e)):aN Tryz.prog f ob0 args v e:=by
 unfold bGA at h;split at h
 ·exact bKQ _ _ _ _ _ _ h
 ·rename_i B;obtain rfl:=zA B;split at h
  ·obtain⟨j,z⟩:=hY h;rw [zH] at j;cases z
   exact bLV _ _ (zC j.1) (zC j.2)
  ·cases h
theorem aE5 {P:Program} {N:Nat} {e:List Nat} {f:List Ct} {c:Code} {rc j:RC} (h:dB P N c=some rc)(h2:(match nE rc e with |some r=>aHN f r |none=>none)=some j):aGG P N e f c=some j:=by unfold aGG;rw [h];exact h2
def bFG(s:Int):Bool:=decide (0<=s)&&decide (s<7)
def rS(L:List (Int×Int)):List (List V):=L.map λp=> [.int .i64 p.1,.int .i64 p.2]
theorem fZ(L:List (Int×Int)):(rS L).length=L.length:=by simp [rS]
theorem vS(L:List (Int×Int))(k:Nat)(h:k<L.length):(rS L).getD ((k:Int)).toNat []=[.int .i64 (L.getD k (0,0)).1,.int .i64 (L.getD k (0,0)).2]:=by rw [zP];simp [rS,zM,h]
def aZW(p:Int×Int):Bool:=(decide (p.1<0)||decide (4<=p.1))|| !bFG p.2
def aV6(l:List (Int×Int))(j:Nat):Bool:=aZW (l.getD j (0,0))||decide (l.getD j (0,0)∈l.take j)
def aBP(l:List (Int×Int)):Bool:=bA (aV6 l) l.length&&(decide (1<=(l.length:Int))&&decide ((l.length:Int)<=8))
structure Gr where
 lim:Int
 pro:Int
 chg:Int
deriving DecidableEq
def Gr.c(g:Gr):List V:= [.int .i64 g.lim,.int .i64 g.pro,.int .i64 g.chg]
def g0:Gr:=⟨0,0,0⟩
def aR(L:List Gr):List (List V):=L.map Gr.c
theorem aK(L:List Gr):(aR L).length=L.length:=by simp [aR]
theorem dV(L:List Gr)(k:Nat)(h:k<L.length):(aR L).getD ((k:Int)).toNat []=(L.getD k g0).c:=by rw [zP];simp [aR,zM,h]
def aOA(g:Gr):Bool:=((((decide (g.lim<1)||decide (64<g.lim))||decide (g.pro<0))||decide (g.lim<g.pro))||decide (g.chg<0))||decide (64<g.chg)
def mM(l:List Gr)(j:Nat):Bool:=aOA (l.getD j g0)
def nR(l:List Gr):Bool:=bA (mM l) l.length&&(decide (1<=(l.length:Int))&&decide ((l.length:Int)<=4))
theorem bEA(l:List Gr)(t:Bool)(E:l.length<=100000):aN Tryz.prog 129 [] [.lst 3 t (aR l)] (.bool (nR l)) []:=by
 refine cG Tryz.func129 ?_;generalize e:nR l=q;rw [nR] at e;refine Wk ?_;rw [aK];refine⟨Nat,λi=>i<=l.length/\bA (mM l) i=true,λi=>⟨[(0,⟨[],true,.lst 3 t (aR l)⟩),(5,⟨[],true,.lst 3 t (aR l)⟩),(6,⟨[],true,.int .i64 (l.length:Int)⟩),(7,⟨[],true,.int .i64 (i:Int)⟩)],[],0⟩,λi=>l.length-i,⟨0,⟨by simp,rfl⟩,?_⟩,λi D=>?_⟩
 ·exact Vw []
 obtain⟨C,m⟩:=D;dsimp only at C m⊢;refine Wk ?_;refine aC (λf=>?_) (λf=>?_)<;> try simp only [zJ,zI,zL,zK,zN] at f
 ·have f:i<l.length:=by simp [aK] at f;omega
  have B:IntKind.i64.wrap ((i:Int)+1)=((i+1:Nat):Int):=by rw [aO (by omega) (by omega)];omega
  refine Wk ?_;refine aG (⟨rfl,by omega,by rw [aK];omega⟩) ?_;rw [dV l i f];have j:mM l i=aOA (l.getD i g0):=rfl;generalize l.getD i g0=g at j;refine Wk ?_;refine aC (λz=>?_) (λz=>?_)<;> try simp only [zJ,zI,zL,zK,zN] at z
  ·have z:mM l i=true:=by rw [j,<-z];rfl
   rw [eB f z] at e;have e:q=false:=by rw [<-e];rfl
   subst e;refine Wk ?_
   try subst e
   exact Lf
  have z:mM l i=false:=by rw [j,<-z];rfl
  refine Wk ?_;rw [B];refine⟨i+1,⟨by show i+1<=_;omega,by show bA (mM l) (i+1)=true;simp only [bA,m,z];rfl⟩,?_,by show l.length- (i+1)<l.length-i;omega⟩;exact Vw []
 have f:i=l.length:=by simp [aK] at f;omega
 subst f;rw [m,Bool.true_and] at e;have e:(bif decide (1<=(l.length:Int)) then decide ((l.length:Int)<=4) else false)=q:=by rw [<-e];cases decide (1<=(l.length:Int))<;> rfl
 rw [<-aK] at e;subst e;refine Wk ?_
 try subst e
 exact Lf
theorem aX6(l:List Gr)(t:Bool)(E:l.length<=100000):aN Tryz.prog 112 [] [.lst 3 t (aR l)] (.bool (nR l)) []:=by
 refine cG Tryz.func112 ?_;generalize e:nR l=q;rw [nR] at e;refine Wk ?_;refine⟨Nat,λi=>i<=l.length/\bA (mM l) i=true,λi=>⟨[(0,⟨[],true,.lst 3 t (aR l)⟩),(3,⟨[],true,.int .i64 (i:Int)⟩)],[],0⟩,λi=>l.length-i,⟨0,⟨by simp,rfl⟩,?_⟩,λi D=>?_⟩
 ·exact Vw []
 obtain⟨C,m⟩:=D;dsimp only at C m⊢;refine Wk ?_;refine aC (λf=>?_) (λf=>?_)<;> try simp only [zJ,zI,zL,zK,zN] at f
 ·have f:i<l.length:=by simp [aK] at f;omega
  have B:IntKind.i64.wrap ((i:Int)+1)=((i+1:Nat):Int):=by rw [aO (by omega) (by omega)];omega
  refine Wk ?_;refine aG (⟨rfl,by omega,by rw [aK];omega⟩) ?_;rw [dV l i f];have j:mM l i=aOA (l.getD i g0):=rfl;generalize l.getD i g0=g at j;refine Wk ?_;refine aC (λz=>?_) (λz=>?_)<;> try simp only [zJ,zI,zL,zK,zN] at z
  ·have z:mM l i=true:=by rw [j,<-z];rfl
   rw [eB f z] at e;have e:q=false:=by rw [<-e];rfl
   subst e;refine Wk ?_
   try subst e
   exact Lf
  have z:mM l i=false:=by rw [j,<-z];rfl
  refine Wk ?_;rw [B];refine⟨i+1,⟨by show i+1<=_;omega,by show bA (mM l) (i+1)=true;simp only [bA,m,z];rfl⟩,?_,by show l.length- (i+1)<l.length-i;omega⟩;exact Vw []
 have f:i=l.length:=by simp [aK] at f;omega
 subst f;rw [m,Bool.true_and] at e;have e:(bif decide (1<=(l.length:Int)) then decide ((l.length:Int)<=4) else false)=q:=by rw [<-e];cases decide (1<=(l.length:Int))<;> rfl
 rw [<-aK] at e;subst e;refine Wk ?_
 try subst e
 exact Lf
def bKX(f:Nat):Bool:=iO f [82,313,147,156,153,97,267,326,167,168,172,170,316,349]
def mdA(caller slot callee:Nat):Nat:=
 bif bKX callee||(Nat.beq callee 314&& !Nat.beq caller 314) then 1 else
 bif Nat.beq callee 272 then 3 else
 bif Nat.beq caller 82 then(bif Nat.ble slot 28 then 1 else 0) else
 match bFX callee with
 |0=>0
 |_=>1
noncomputable def E1:En Tryz.prog where
 ext:=bGA
 hext:=bKR
 qg:=some 140
 hq:=λg e=>by obtain rfl:=zsi e;exact tG
 md:=mdA
 lf:=200
 fz:=λf=>bif Nat.beq f 82 then [3,4,7] else []
def i0(n:Int):V:=.int .i64 n
def z9:List V:= [i0 (-1),i0 0,.str ⟨#[]⟩,i0 0,i0 0,i0 0,i0 0,i0 0,i0 0]
def k0:V:=.agg [.lst 15 false [[i0 0,i0 0,i0 0,.lst 0 true [],i0 0,i0 0,i0 0,i0 0,i0 0,i0 0,i0 0,i0 0,i0 0,i0 0,i0 0]],.lst 9 false [z9,z9,z9,z9,z9,z9,z9,z9],.lst 6 false [[i0 1,i0 8,i0 1,i0 2,i0 4,.lst 1 false [[i0 1],[i0 2],[i0 3],[i0 4],[i0 5],[i0 6],[i0 7],[i0 8]]]],.lst 3 false [[i0 8,i0 0,i0 0]],.lst 3 false [[.lst 0 true [],.lst 0 true [],.lst 0 true []]],.lst 1 false [[i0 0]],.lst 0 true []]
def k1:V:=.agg [.lst 15 false [[i0 0,i0 0,i0 0,.lst 0 true [],i0 1,i0 0,i0 0,i0 0,i0 0,i0 0,i0 0,i0 0,i0 0,i0 0,i0 0]],.lst 9 false [[i0 0,i0 0,.str (⟨#[0,0,0,0,0,0,0,0,0,0,0,0,0,0,0,0]⟩),i0 3,i0 0,i0 0,i0 0,i0 0,i0 0],z9,z9,z9,z9,z9,z9,z9],.lst 6 false [[i0 1,i0 8,i0 1,i0 2,i0 4,.lst 1 false [[i0 2],[i0 3],[i0 4],[i0 5],[i0 6],[i0 7],[i0 8]]]],.lst 3 false [[i0 8,i0 0,i0 1]],.lst 3 false [[.lst 1 false [],.lst 1 false [[i0 1]],.lst 1 false []]],.lst 1 false [[i0 0]],.lst 5 false []]
def k2:V:=.agg [.lst 15 false [[i0 0,i0 0,i0 0,.lst 0 true [],i0 1,i0 1,i0 3,i0 0,i0 0,i0 0,i0 0,i0 0,i0 0,i0 0,i0 0]],.lst 9 false [[i0 0,i0 0,.str (⟨#[97,98,99,0,0,0,0,0,0,0,0,0,0,0,0,0]⟩),i0 3,i0 1,i0 0,i0 0,i0 0,i0 0],z9,z9,z9,z9,z9,z9,z9],.lst 6 false [[i0 1,i0 8,i0 1,i0 2,i0 4,.lst 1 false [[i0 2],[i0 3],[i0 4],[i0 5],[i0 6],[i0 7],[i0 8]]]],.lst 3 false [[i0 8,i0 0,i0 1]],.lst 3 false [[.lst 1 false [],.lst 1 false [[i0 1]],.lst 1 false [[i0 1]]]],.lst 1 false [[i0 0]],.lst 5 false []]
def k3:V:=.agg [.lst 15 false [[i0 0,i0 0,i0 0,.lst 0 true [],i0 1,i0 1,i0 3,i0 0,i0 0,i0 0,i0 0,i0 0,i0 0,i0 0,i0 0]],.lst 9 false [[i0 0,i0 0,.str (⟨#[97,98,99,0,0,0,0,0,0,0,0,0,0,0,0,0]⟩),i0 3,i0 1,i0 0,i0 0,i0 0,i0 0],z9,z9,z9,z9,z9,z9,z9],.lst 6 false [[i0 1,i0 8,i0 1,i0 2,i0 4,.lst 1 false [[i0 2],[i0 3],[i0 4],[i0 5],[i0 6],[i0 7],[i0 8]]]],.lst 3 false [[i0 8,i0 0,i0 1]],.lst 3 false [[.lst 1 false [[i0 1]],.lst 1 false [],.lst 1 false []]],.lst 1 false [[i0 0]],.lst 5 false []]
def k4:V:=.agg [.lst 15 false [[i0 0,i0 0,i0 0,.lst 0 true [],i0 1,i0 1,i0 3,i0 0,i0 0,i0 0,i0 0,i0 0,i0 0,i0 0,i0 0]],.lst 9 false [[i0 0,i0 0,.str (⟨#[97,98,99,0,0,0,0,0,0,0,0,0,0,0,0,0]⟩),i0 3,i0 1,i0 0,i0 1,i0 0,i0 0],z9,z9,z9,z9,z9,z9,z9],.lst 6 false [[i0 1,i0 8,i0 1,i0 2,i0 4,.lst 1 false [[i0 2],[i0 3],[i0 4],[i0 5],[i0 6],[i0 7],[i0 8]]]],.lst 3 false [[i0 8,i0 0,i0 1]],.lst 3 false [[.lst 1 false [],.lst 1 false [[i0 1]],.lst 1 false [[i0 1]]]],.lst 1 false [[i0 0]],.lst 5 false []]
end Go.Proofs.YtmhapcbjjpadnaaGreat
