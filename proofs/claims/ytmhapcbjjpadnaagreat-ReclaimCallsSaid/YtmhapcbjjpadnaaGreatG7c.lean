/- Caches. -/
import Derived.Test.YtmhapcbjjpadnaaGreatG6c
import Derived.Test.YtmhapcbjjpadnaaGreatG3c
import Derived.Test.YtmhapcbjjpadnaaGreatK7c
import Derived.Tactics
import Derived.Tactics2
import Derived.Defers
import Derived.Recover
import Derived.Test.YtmhapcbjjpadnaaGreatG1c
import Derived.Shelf.Strings.Repeat
import Derived.Test.YtmhapcbjjpadnaaGreatG5c
import Derived.KernelRfl
set_option linter.all false
set_option maxHeartbeats 1000000
set_option maxRecDepth 40000
open Array renaming replicate→zO
open Bool renaming and_eq_true→zH,cond_false_right→zI,cond_true_left→zJ,not_eq_false'→zK,not_eq_true'→zL,not_not→zN
open Int renaming toNat_natCast→zP
open List renaming replicate_zero→zD,length_nil→zE,exists_cons_of_ne_nil→zF,getD_eq_getElem?_getD→zM
open Nat renaming eq_of_beq_eq_true→zA,le_of_ble_eq_true→zC,zero_add→zG
namespace Go.Proofs.YtmhapcbjjpadnaaGreat
open Go Go.Sk Go.RowKit
theorem uP:Quiet Tryz.prog 140:=by
 intro e w;refine callsD_of_wpS Tryz.func140 rfl λC B z=>?_;have m:(e++zO (6-e.size) undef).size≥6:=by simp;omega
 show Code.wpS _ _ _ { tmps:=e++zO (6-e.size) undef,defers:= [] } _ _;generalize e++zO (6-e.size) undef=j at m;apply wpS_seq;apply wpS_region;have h2:2<j.size:=by omega
 have f:3<j.size:=by omega
 simp [wpOpsS,go_sem,recoverD,z,Exit.thenS,h2,f];refine wpS_cond (t:=false) (by simp [Act.eval,h2,f]) ?_;simp only [Bool.false_eq_true,if_false];refine wpS_of_wp (wp_skip ?_);cases C
 simp_all [bodyPostS,results,Tryz.f140]
def bCP:List (List V)->Option (List Int)
 | []=>some []
 | [.int .i64 x]::r=>match bCP r with
   |some l=>some (x::l)
   |none=>none
 |_=>none
theorem aSK:∀ {r:List (List V)} {l:List Int},bCP r=some l->r=aB l:=by
 intro r
 induction r with
 |nil=>intro l h;cases h;rfl
 |cons x r j=>
  intro l h;unfold bCP at h;split at h
  ·rename_i e;cases e
  ·rename_i n m e;cases e
   split at h
   ·rename_i l' f;cases h
    rw [j f];rfl
   ·cases h
  ·cases h
def aQQ:V->Option (List Int)
 | .lst e _ rows=>match bCP rows with
   |some []=>some []
   |some (x::l)=>bif Nat.beq e 1 then some (x::l) else none
   |none=>none
 |_=>none
theorem aB7 {v:V} {l:List Int} (h:aQQ v=some l):LeV v (.lst 1 false (aB l)):=by
 unfold aQQ at h;split at h
 ·split at h
  ·rename_i e;cases h
   rw [aSK e];exact .nils
  ·rename_i e;rw [aSK e]
   cases f:Nat.beq _ 1 with
   |true=>rw [f] at h;cases h;rw [zA f];exact .weak
   |false=>rw [f] at h;cases h
  ·cases h
 ·cases h
def bCQ:List (List V)->Option (List Zn)
 | []=>some []
 | [.int .i64 a,.int .i64 b,.int .i64 c,.int .i64 d,.int .i64 e,fr]::r=>match aQQ fr with
   |some l=>match bCQ r with
    |some z=>some (⟨a,b,c,d,e,l,false⟩::z)
    |none=>none
   |none=>none
 |_=>none
theorem bCR:∀ {r:List (List V)} {l:List Zn},bCQ r=some l->r.length=(aK l).length/\∀(i:Nat) (x y:List V),r[i]? =some x->(aK l)[i]? =some y->nD x y:=by
 intro r
 induction r with
 |nil=>intro l h;cases h;exact⟨rfl,by simp⟩
 |cons x r E=>
  intro l h;unfold bCQ at h;split at h
  ·rename_i e;cases e
  ·rename_i a b c d e G H B;cases B
   split at h
   ·rename_i F C;split at h
    ·rename_i z D;cases h
     obtain⟨m,h2⟩:=E D;refine⟨by simp [aK] at m⊢;exact m,λi x y f j=>?_⟩
     cases i with
     |zero=> simp only [aK,List.map_cons,List.getElem?_cons_zero,zse] at f j;subst f j;exact .cons (.refl _) (.cons (.refl _) (.cons (.refl _) (.cons (.refl _) (.cons (.refl _) (.cons (aB7 C) .nil)))))
     |succ i=>exact h2 i x y (by simpa using f) (by simpa [aK] using j)
    ·cases h
   ·cases h
  ·cases h
def aNM:V->Option (List Zn)
 | .lst e _ rows=>match bCQ rows with
   |some l=>bif Nat.beq e 6||l.isEmpty then some l else none
   |none=>none
 |_=>none
theorem aGO {v:V} {l:List Zn} (h:aNM v=some l):LeV v (.lst 6 false (aK l)):=by
 unfold aNM at h;split at h
 ·rename_i e t m;split at h
  ·rename_i l' z;obtain⟨j,h2⟩:=bCR z
   cases f:(Nat.beq e 6||l'.isEmpty) with
   |false=>rw [f] at h;cases h
   |true=>
    rw [f] at h;cases h
    refine .lst ?_ (by simp) j h2;rw [Bool.or_eq_true] at f;rcases f with f |f
    ·exact .inl (zA f)
    ·right;rw [List.isEmpty_iff.1 f] at j;exact List.length_eq_zero_iff.1 (by rw [j];rfl)
  ·cases h
 ·cases h
def aJA:V->Option Ls
 | .agg [a,i,r]=>match aQQ a with
   |some A=>match aQQ i with
    |some I=>match aQQ r with
     |some R=>some ⟨A,I,R⟩
     |none=>none
    |none=>none
   |none=>none
 |_=>none
theorem aB8 {v:V} {l:Ls} (h:aJA v=some l):LeV v (.agg l.c):=by
 unfold aJA at h;split at h
 ·split at h
  ·rename_i e;split at h
   ·rename_i h2;split at h
    ·rename_i f;cases h
     exact .aggs (.cons (aB7 e) (.cons (aB7 h2) (.cons (aB7 f) .nil)))
    ·cases h
   ·cases h
  ·cases h
 ·cases h
def smZ(l:List Zn):Bool:=Nat.ble l.length 100000&&l.all λz=>Nat.ble z.free.length 100000
theorem aRV {l:List Zn} (h:smZ l=true):fL l:=by rw [smZ,zH] at h;exact⟨zC h.1,λz e=>zC (List.all_eq_true.1 h.2 z e)⟩
def smL(l:Ls):Bool:=Nat.ble l.A.length 10000&&(Nat.ble l.I.length 10000&&Nat.ble l.R.length 10000)
theorem aMG {l:Ls} (h:smL l=true):dM l:=by rw [smL,zH,zH] at h;exact⟨zC h.1,zC h.2.1,zC h.2.2⟩
def bIW(f:FuncId)(ob0:List Sk.Obj)(args:List V):Option (V×List Sk.Obj):=
 match ob0 with
 |_::_=>none
 | []=>bif Nat.beq f 130 then(match args with
  | [v]=>match aQQ v with
    |some s=>bif Nat.ble s.length 100000 then some (.tup [.lst 6 false (aK (newF s).1),.int .i64 (newF s).2],[]) else none
    |none=>none
  |_=>none) else
   bif Nat.beq f 109 then(match args with
    | [v,.int .i64 p,.bool u]=>match aNM v with
      |some l=>bif smZ l then some (.tup [.lst 6 false (aK (bZ (l.map gM) l p u).1),.int .i64 (bZ (l.map gM) l p u).2.1,.int .i64 (bZ (l.map gM) l p u).2.2],[]) else none
      |none=>none
    |_=>none) else
   bif Nat.beq f 247 then(match args with
    | [v,.int .i64 p]=>match aNM v with
      |some l=>bif smZ l then some (.tup [.lst 6 false (aK (eD (l.map gM) l p).1),.int .i64 (eD (l.map gM) l p).2],[]) else none
      |none=>none
    |_=>none) else
   bif Nat.beq f 211 then(match args with
    | [v]=>match aNM v with
      |some l=>bif smZ l then some (.bool (bB l),[]) else none
      |none=>none
    |_=>none) else
   bif Nat.beq f 231 then(match args with
    | [v]=>match aJA v with
      |some l=>bif smL l then some (.bool (dU l),[]) else none
      |none=>none
    |_=>none) else
   bif Nat.beq f 149 then(match args with
    | [v,.int .i64 p,.bool u]=>match aJA v with
      |some l=>bif smL l then some (.tup [.agg (aV5 l p u).1.c,.int .i64 (aV5 l p u).2],[]) else none
      |none=>none
    |_=>none) else
   bif Nat.beq f 245 then(match args with
    | [v,.int .i64 p]=>match aJA v with
      |some l=>bif smL l then some (.tup [.agg (nF l p).1.c,.int .i64 (nF l p).2],[]) else none
      |none=>none
    |_=>none) else
   bif Nat.beq f 201 then(match args with
    | [v,.int .i64 p]=>match aJA v with
      |some l=>bif smL l then some (.tup [.agg (nH l p).1.c,.int .i64 (nH l p).2],[]) else none
      |none=>none
    |_=>none) else none
theorem iN {α:Type} {b:Bool} {x y:α} (h:(bif b then some x else none)=some y):b=true/\x=y:=by
 cases b with
 |true=>exact⟨rfl,zsi h⟩
 |false=>cases h
theorem bNU(f:FuncId)(ob0:List Sk.Obj)(args:List V)(v:V)(B:List Sk.Obj)(h:bIW f ob0 args=some (v,B)):aM Tryz.prog f ob0 args v B:=by
 unfold bIW at h;split at h
 ·cases h
 cases e:Nat.beq f 130 with
 |true=>
  rw [e] at h;obtain rfl:=zA e;dsimp only [zct] at h;split at h
  ·split at h
   ·rename_i m;obtain⟨j,z⟩:=iN h;cases z
    exact(bOO _ _ (zC j)).le (.cons (aB7 m) .nil) (.refl _) (pP.refl _)
   ·cases h
  ·cases h
 |false=>
 rw [e] at h;dsimp only [zcf] at h
 cases e:Nat.beq f 109 with
 |true=>
  rw [e] at h;obtain rfl:=zA e;dsimp only [zct] at h;split at h
  ·split at h
   ·rename_i m;obtain⟨j,z⟩:=iN h;cases z
    exact(bGN _ _ _ _ (aRV j)).le (.cons (aGO m) (.refl _)) (.refl _) (pP.refl _)
   ·cases h
  ·cases h
 |false=>
 rw [e] at h;dsimp only [zcf] at h
 cases e:Nat.beq f 247 with
 |true=>
  rw [e] at h;obtain rfl:=zA e;dsimp only [zct] at h;split at h
  ·split at h
   ·rename_i m;obtain⟨j,z⟩:=iN h;cases z
    exact(bHB _ _ _ (aRV j)).le (.cons (aGO m) (.refl _)) (.refl _) (pP.refl _)
   ·cases h
  ·cases h
 |false=>
 rw [e] at h;dsimp only [zcf] at h
 cases e:Nat.beq f 211 with
 |true=>
  rw [e] at h;obtain rfl:=zA e;dsimp only [zct] at h;split at h
  ·split at h
   ·rename_i m;obtain⟨j,z⟩:=iN h;cases z
    exact(bA4 _ _ (aRV j)).le (.cons (aGO m) (.refl _)) (.refl _) (pP.refl _)
   ·cases h
  ·cases h
 |false=>
 rw [e] at h;dsimp only [zcf] at h
 cases e:Nat.beq f 231 with
 |true=>
  rw [e] at h;obtain rfl:=zA e;dsimp only [zct] at h;split at h
  ·split at h
   ·rename_i m;obtain⟨j,z⟩:=iN h;cases z
    exact(aTL _ (aMG j)).le (.cons (aB8 m) (.refl _)) (.refl _) (pP.refl _)
   ·cases h
  ·cases h
 |false=>
 rw [e] at h;dsimp only [zcf] at h
 cases e:Nat.beq f 149 with
 |true=>
  rw [e] at h;obtain rfl:=zA e;dsimp only [zct] at h;split at h
  ·split at h
   ·rename_i m;obtain⟨j,z⟩:=iN h;cases z
    exact(bOR _ _ _ (aMG j)).le (.cons (aB8 m) (.refl _)) (.refl _) (pP.refl _)
   ·cases h
  ·cases h
 |false=>
 rw [e] at h;dsimp only [zcf] at h
 cases e:Nat.beq f 245 with
 |true=>
  rw [e] at h;obtain rfl:=zA e;dsimp only [zct] at h;split at h
  ·split at h
   ·rename_i m;obtain⟨j,z⟩:=iN h;cases z
    exact(bHA _ _ (aMG j)).le (.cons (aB8 m) (.refl _)) (.refl _) (pP.refl _)
   ·cases h
  ·cases h
 |false=>
 rw [e] at h;dsimp only [zcf] at h
 cases e:Nat.beq f 201 with
 |true=>
  rw [e] at h;obtain rfl:=zA e;dsimp only [zct] at h;split at h
  ·split at h
   ·rename_i m;obtain⟨j,z⟩:=iN h;cases z
    exact(bH0 _ _ (aMG j)).le (.cons (aB8 m) (.refl _)) (.refl _) (pP.refl _)
   ·cases h
  ·cases h
 |false=>
 rw [e] at h;cases h
theorem aZZ(e:List (List V))(t:Bool)(f:e.length*136<=140737488355328):aM Tryz.prog 185 [] [.lst 15 t e] (.sl 0 0 e.length) [.row 15 e]:=by
 refine aM.lst_cases (λj=>?_) (λz a cap=>?_)
 ·obtain⟨r,B,rfl⟩:=zF j;refine cK Tryz.func185 ?_;refine Wk ?_;refine cA (by simp only [zD,zE,zG];omega) (by simp only [zD,zE,zG];exact f) ?_;refine Wk ?_;refine⟨[some 1],?_,rfl,?_,rfl,?_⟩
  all_goals repeat' (first |exact trivial |rfl |exact .inl rfl |exact .inr rfl |exact id |exact zbc |apply And.intro)
  simp
 ·subst z
  cases a with
  |none=> refine cK Tryz.func185 ?_;refine Wk ?_;exact⟨[none],Cl,rfl,Cl,rfl,Cl⟩
  |some m=> refine cK Tryz.func185 ?_;refine Wk ?_;exact⟨[some 1],Cl,rfl,Cl,rfl,Cl⟩
theorem bA0(e:List (List V))(t:Bool)(f:e.length*80<=140737488355328):aM Tryz.prog 186 [] [.lst 9 t e] (.sl 0 0 e.length) [.row 9 e]:=by
 refine aM.lst_cases (λj=>?_) (λz a cap=>?_)
 ·obtain⟨r,B,rfl⟩:=zF j;refine cK Tryz.func186 ?_;refine Wk ?_;refine cA (by simp only [zD,zE,zG];omega) (by simp only [zD,zE,zG];exact f) ?_;refine Wk ?_;refine⟨[some 1],?_,rfl,?_,rfl,?_⟩
  all_goals repeat' (first |exact trivial |rfl |exact .inl rfl |exact .inr rfl |exact id |exact zbc |apply And.intro)
  simp
 ·subst z
  cases a with
  |none=> refine cK Tryz.func186 ?_;refine Wk ?_;exact⟨[none],Cl,rfl,Cl,rfl,Cl⟩
  |some m=> refine cK Tryz.func186 ?_;refine Wk ?_;exact⟨[some 1],Cl,rfl,Cl,rfl,Cl⟩
theorem aTI(e:List (List V))(t:Bool)(f:e.length*24<=140737488355328):aM Tryz.prog 188 [] [.lst 3 t e] (.sl 0 0 e.length) [.row 3 e]:=by
 refine aM.lst_cases (λj=>?_) (λz a cap=>?_)
 ·obtain⟨r,B,rfl⟩:=zF j;refine cK Tryz.func188 ?_;refine Wk ?_;refine cA (by simp only [zD,zE,zG];omega) (by simp only [zD,zE,zG];exact f) ?_;refine Wk ?_;refine⟨[some 1],?_,rfl,?_,rfl,?_⟩
  all_goals repeat' (first |exact trivial |rfl |exact .inl rfl |exact .inr rfl |exact id |exact zbc |apply And.intro)
  simp
 ·subst z
  cases a with
  |none=> refine cK Tryz.func188 ?_;refine Wk ?_;exact⟨[none],Cl,rfl,Cl,rfl,Cl⟩
  |some m=> refine cK Tryz.func188 ?_;refine Wk ?_;exact⟨[some 1],Cl,rfl,Cl,rfl,Cl⟩
theorem bA1(e:List (List V))(t:Bool)(f:e.length*72<=140737488355328):aM Tryz.prog 189 [] [.lst 3 t e] (.sl 0 0 e.length) [.row 3 e]:=by
 refine aM.lst_cases (λj=>?_) (λz a cap=>?_)
 ·obtain⟨r,B,rfl⟩:=zF j;refine cK Tryz.func189 ?_;refine Wk ?_;refine cA (by simp only [zD,zE,zG];omega) (by simp only [zD,zE,zG];exact f) ?_;refine Wk ?_;refine⟨[some 1],?_,rfl,?_,rfl,?_⟩
  all_goals repeat' (first |exact trivial |rfl |exact .inl rfl |exact .inr rfl |exact id |exact zbc |apply And.intro)
  simp
 ·subst z
  cases a with
  |none=> refine cK Tryz.func189 ?_;refine Wk ?_;exact⟨[none],Cl,rfl,Cl,rfl,Cl⟩
  |some m=> refine cK Tryz.func189 ?_;refine Wk ?_;exact⟨[some 1],Cl,rfl,Cl,rfl,Cl⟩
theorem aOT(e:List (List V))(t:Bool)(f:e.length*32<=140737488355328):aM Tryz.prog 190 [] [.lst 5 t e] (.sl 0 0 e.length) [.row 5 e]:=by
 refine aM.lst_cases (λj=>?_) (λz a cap=>?_)
 ·obtain⟨r,B,rfl⟩:=zF j;refine cK Tryz.func190 ?_;refine Wk ?_;refine cA (by simp only [zD,zE,zG];omega) (by simp only [zD,zE,zG];exact f) ?_;refine Wk ?_;refine⟨[some 1],?_,rfl,?_,rfl,?_⟩
  all_goals repeat' (first |exact trivial |rfl |exact .inl rfl |exact .inr rfl |exact id |exact zbc |apply And.intro)
  simp
 ·subst z
  cases a with
  |none=> refine cK Tryz.func190 ?_;refine Wk ?_;exact⟨[none],Cl,rfl,Cl,rfl,Cl⟩
  |some m=> refine cK Tryz.func190 ?_;refine Wk ?_;exact⟨[some 1],Cl,rfl,Cl,rfl,Cl⟩
theorem aAQ(e:List (List V))(t:Bool)(f:e.length*8<=140737488355328):aM Tryz.prog 107 [] [.lst 1 t e] (.lst 1 false e) []:=by exact(sV e t f).lstv
theorem bJW(e:List (List V))(t:Bool)(f:e.length*136<=140737488355328):aM Tryz.prog 185 [] [.lst 15 t e] (.lst 15 false e) []:=by exact(aZZ e t f).lstv
theorem bJX(e:List (List V))(t:Bool)(f:e.length*80<=140737488355328):aM Tryz.prog 186 [] [.lst 9 t e] (.lst 9 false e) []:=by exact(bA0 e t f).lstv
theorem bJY(e:List (List V))(t:Bool)(f:e.length*64<=140737488355328):aM Tryz.prog 187 [] [.lst 6 t e] (.lst 6 false e) []:=by exact(aTH e t f).lstv
theorem bJZ(e:List (List V))(t:Bool)(f:e.length*24<=140737488355328):aM Tryz.prog 188 [] [.lst 3 t e] (.lst 3 false e) []:=by exact(aTI e t f).lstv
theorem bK0(e:List (List V))(t:Bool)(f:e.length*72<=140737488355328):aM Tryz.prog 189 [] [.lst 3 t e] (.lst 3 false e) []:=by exact(bA1 e t f).lstv
theorem bK2(e:List (List V))(t:Bool)(f:e.length*32<=140737488355328):aM Tryz.prog 190 [] [.lst 5 t e] (.lst 5 false e) []:=by exact(aOT e t f).lstv
open Go.Shelf
def oF:Go.Shelf.Ren:=⟨λ|105=>158 |212=>254 |99=>255 |165=>256 |166=>257 |170=>258 |169=>259 |263=>321 |264=>322 |206=>323 |240=>324 |241=>325 |276=>351 |277=>352 |n=>n,λ|9=>9 |3=>3 |4=>4 |20=>20 |0=>0 |46=>264 |109=>265 |5=>5 |72=>270 |76=>273 |51=>315 |146=>316 |53=>114 |148=>318 |70=>268 |37=>106 |75=>272 |127=>320 |164=>333 |80=>275 |n=>n,λ|n=>n⟩
theorem oE:Go.Proofs.Lays.n105 Tryz.prog oF where
 mixed:=by kernel_rfl
 f99:=Tryz.func255.trans (congrArg some (by kernel_rfl))
 f105:=Tryz.func158.trans (congrArg some (by kernel_rfl))
 f165:=Tryz.func256.trans (congrArg some (by kernel_rfl))
 f166:=Tryz.func257.trans (congrArg some (by kernel_rfl))
 f169:=Tryz.func259.trans (congrArg some (by kernel_rfl))
 f170:=Tryz.func258.trans (congrArg some (by kernel_rfl))
 f206:=Tryz.func323.trans (congrArg some (by kernel_rfl))
 f212:=Tryz.func254.trans (congrArg some (by kernel_rfl))
 f240:=Tryz.func324.trans (congrArg some (by kernel_rfl))
 f241:=Tryz.func325.trans (congrArg some (by kernel_rfl))
 f263:=Tryz.func321.trans (congrArg some (by kernel_rfl))
 f264:=Tryz.func322.trans (congrArg some (by kernel_rfl))
 f276:=Tryz.func351.trans (congrArg some (by kernel_rfl))
 f277:=Tryz.func352.trans (congrArg some (by kernel_rfl))
 t0:=Tryz.underlying0
 a0:=Tryz.isAgg0
 z0:=Tryz.sizeOf0
 v0:=Tryz.zeroValue0
 t3:=Tryz.underlying3
 a3:=Tryz.isAgg3
 z3:=Tryz.sizeOf3
 v3:=Tryz.zeroValue3
 t4:=Tryz.underlying4
 a4:=Tryz.isAgg4
 z4:=Tryz.sizeOf4
 v4:=Tryz.zeroValue4
 t5:=Tryz.underlying5
 a5:=Tryz.isAgg5
 z5:=Tryz.sizeOf5
 v5:=Tryz.zeroValue5
 t9:=Tryz.underlying9
 a9:=Tryz.isAgg9
 z9:=Tryz.sizeOf9
 v9:=Tryz.zeroValue9
 t20:=Tryz.underlying20
 a20:=Tryz.isAgg20
 z20:=Tryz.sizeOf20
 v20:=Tryz.zeroValue20
 t37:=Tryz.underlying106
 a37:=Tryz.isAgg106
 z37:=Tryz.sizeOf106
 v37:=Tryz.zeroValue106
 t46:=Tryz.underlying264
 a46:=Tryz.isAgg264
 z46:=Tryz.sizeOf264
 v46:=Tryz.zeroValue264
 t51:=Tryz.underlying315
 a51:=Tryz.isAgg315
 z51:=Tryz.sizeOf315
 v51:=Tryz.zeroValue315
 t53:=Tryz.underlying114
 a53:=Tryz.isAgg114
 z53:=Tryz.sizeOf114
 v53:=Tryz.zeroValue114
 t70:=Tryz.underlying268
 a70:=Tryz.isAgg268
 z70:=Tryz.sizeOf268
 v70:=Tryz.zeroValue268
 t72:=Tryz.underlying270
 a72:=Tryz.isAgg270
 z72:=Tryz.sizeOf270
 v72:=Tryz.zeroValue270
 t75:=Tryz.underlying272
 a75:=Tryz.isAgg272
 z75:=Tryz.sizeOf272
 v75:=Tryz.zeroValue272
 t76:=Tryz.underlying273
 a76:=Tryz.isAgg273
 z76:=Tryz.sizeOf273
 v76:=Tryz.zeroValue273
 t109:=Tryz.underlying265
 a109:=Tryz.isAgg265
 z109:=Tryz.sizeOf265
 v109:=Tryz.zeroValue265
 t127:=Tryz.underlying320
 a127:=Tryz.isAgg320
 z127:=Tryz.sizeOf320
 v127:=Tryz.zeroValue320
 t146:=Tryz.underlying316
 a146:=Tryz.isAgg316
 z146:=Tryz.sizeOf316
 v146:=Tryz.zeroValue316
 t148:=Tryz.underlying318
 a148:=Tryz.isAgg318
 z148:=Tryz.sizeOf318
 v148:=Tryz.zeroValue318
 t164:=Tryz.underlying333
 a164:=Tryz.isAgg333
 z164:=Tryz.sizeOf333
 v164:=Tryz.zeroValue333
theorem aNZ:Builder.Extra Tryz.prog oF where
 sizeBuilder:=by kernel_rfl
 liesBuilder:=by kernel_rfl
 t5:=oE.t5
 a5:=oE.a5
 z5:=oE.z5
 v5:=oE.v5
 infoByte:=by kernel_rfl
 cellsByte:=by kernel_rfl
 sizeByte:=by kernel_rfl
 neB5:=by decide
theorem bD1:oF.f 105=158:=by kernel_rfl
def bRE(s:ByteArray)(c:Nat):ByteArray:=⟨(Lib.repeatL s.data.toList c).toArray⟩
theorem bOV(s:ByteArray)(c:Nat)(H:c<=9223372036854775807)(z:s.size*c<=140737488355328):aM Tryz.prog 158 [] [.str s,.int .i64 (c:Int)] (.str (bRE s c)) []:=by
 intro U σ w f G J j
 obtain⟨c0,F,rfl⟩:∃a b,f= #[a,b]:=by
  rcases f with ⟨L⟩
  match L,J with
  | [a,b],_=>exact⟨a,b,rfl⟩
 have D:=j 0 _ c0 rfl rfl;have E:=j 1 _ F rfl rfl;cases D
 cases E
 have B:=Any.strings_Repeat oE aNZ s c w H z;rw [bD1] at B;refine B.mono ?_;rintro e K ⟨rfl,m⟩;have C:cG (λ_=>False) w K:=⟨m.os,m.tape,m.output,m.size,λb h _=>m.block b h⟩;exact⟨_,σ,rfl,G.of_keep C,.str _,bP.of_keep C⟩
def bIM(f:Nat):Nat:=bif Nat.beq f 107 then 1 else bif Nat.beq f 185 then 15 else bif Nat.beq f 186 then 9 else bif Nat.beq f 187 then 6 else bif Nat.beq f 188 then 3 else bif Nat.beq f 189 then 3 else bif Nat.beq f 190 then 5 else 0
def bIL(own:Bool)(es:Nat)(args:List V):Option (V×List Sk.Obj):=match args with
 | [.lst _ _ []]=>match own with
   |true=>some (.sl 0 0 0,[.row es []])
   |false=>some (.lst es false [],[])
 | [.lst e _ (x::xs)]=>match own with
   |true=>bif Nat.beq e es&&Nat.ble (x::xs).length 100000 then some (.sl 0 0 (x::xs).length,[.row es (x::xs)]) else none
   |false=>bif Nat.beq e es&&Nat.ble (x::xs).length 100000 then some (.lst es false (x::xs),[]) else none
 |_=>none
theorem rP {f es:Nat} {C:Bool} (g:∀(e:List (List V)) (t:Bool),e.length<=100000->aM Tryz.prog f [] [.lst es t e] (.lst es false e) [])(h:∀(e:List (List V)) (t:Bool),e.length<=100000->aM Tryz.prog f [] [.lst es t e] (.sl 0 0 e.length) [.row es e]) {args:List V} {v:V} {z:List Sk.Obj} (j:bIL C es args=some (v,z)):aM Tryz.prog f [] args v z:=by
 unfold bIL at j;split at j
 ·split at j
  ·cases j
   exact(h [] false (by simp)).le (.cons .nils .nil) (.refl _) (pP.refl _)
  ·cases j
   exact(g [] false (by simp)).le (.cons .nils .nil) (.refl _) (pP.refl _)
 ·split at j
  ·obtain⟨m,B⟩:=iN j;rw [zH] at m;cases B
   rw [zA m.1];exact h _ _ (zC m.2)
  ·obtain⟨m,B⟩:=iN j;rw [zH] at m;cases B
   rw [zA m.1];exact g _ _ (zC m.2)
 ·cases j
def bIX(own:Bool)(f:FuncId)(ob0:List Sk.Obj)(args:List V):Option (V×List Sk.Obj):=
 match ob0 with
 |_::_=>none
 | []=>match bIM f with
   |0=>bIW f [] args
   |es+1=>bIL own (es+1) args
theorem bNV(D:Bool)(f:FuncId)(ob0:List Sk.Obj)(args:List V)(v:V)(C:List Sk.Obj)(h:bIX D f ob0 args=some (v,C)):aM Tryz.prog f ob0 args v C:=by
 unfold bIX at h;split at h
 ·cases h
 ·split at h
  ·exact bNU _ _ _ _ _ h
  ·rename_i es j;unfold bIM at j
   cases m:Nat.beq f 107 with
   |true=>
    obtain rfl:=zA m;have z:1=es+1:=by rw [m] at j;exact j
    rw [<-z] at h;exact rP (λe t B=>aAQ e t (by omega)) (λe t B=>sV e t (by omega)) h
   |false=>
   rw [m] at j;dsimp only [zcf] at j
   cases m:Nat.beq f 185 with
   |true=>
    obtain rfl:=zA m;have z:15=es+1:=by rw [m] at j;exact j
    rw [<-z] at h;exact rP (λe t B=>bJW e t (by omega)) (λe t B=>aZZ e t (by omega)) h
   |false=>
   rw [m] at j;dsimp only [zcf] at j
   cases m:Nat.beq f 186 with
   |true=>
    obtain rfl:=zA m;have z:9=es+1:=by rw [m] at j;exact j
    rw [<-z] at h;exact rP (λe t B=>bJX e t (by omega)) (λe t B=>bA0 e t (by omega)) h
   |false=>
   rw [m] at j;dsimp only [zcf] at j
   cases m:Nat.beq f 187 with
   |true=>
    obtain rfl:=zA m;have z:6=es+1:=by rw [m] at j;exact j
    rw [<-z] at h;exact rP (λe t B=>bJY e t (by omega)) (λe t B=>aTH e t (by omega)) h
   |false=>
   rw [m] at j;dsimp only [zcf] at j
   cases m:Nat.beq f 188 with
   |true=>
    obtain rfl:=zA m;have z:3=es+1:=by rw [m] at j;exact j
    rw [<-z] at h;exact rP (λe t B=>bJZ e t (by omega)) (λe t B=>aTI e t (by omega)) h
   |false=>
   rw [m] at j;dsimp only [zcf] at j
   cases m:Nat.beq f 189 with
   |true=>
    obtain rfl:=zA m;have z:3=es+1:=by rw [m] at j;exact j
    rw [<-z] at h;exact rP (λe t B=>bK0 e t (by omega)) (λe t B=>bA1 e t (by omega)) h
   |false=>
   rw [m] at j;dsimp only [zcf] at j
   cases m:Nat.beq f 190 with
   |true=>
    obtain rfl:=zA m;have z:5=es+1:=by rw [m] at j;exact j
    rw [<-z] at h;exact rP (λe t B=>bK2 e t (by omega)) (λe t B=>aOT e t (by omega)) h
   |false=>
   rw [m] at j;dsimp only [zcf] at j;cases j
def bIY(own:Bool)(f:FuncId)(ob0:List Sk.Obj)(args:List V):Option (V×List Sk.Obj):=
 match Nat.beq f 158 with
 |false=>bIX own f ob0 args
 |true=>match ob0,args with
  | [],[.str s,.int .i64 (.ofNat c)]=>bif Nat.ble c 9223372036854775807&&Nat.ble (s.size*c) 140737488355328 then some (.str (bRE s c),[]) else none
  |_,_=>none
theorem bNW(m:Bool)(f:FuncId)(ob0:List Sk.Obj)(args:List V)(v:V)(e:List Sk.Obj)(h:bIY m f ob0 args=some (v,e)):aM Tryz.prog f ob0 args v e:=by
 unfold bIY at h;split at h
 ·exact bNV _ _ _ _ _ _ h
 ·rename_i B;obtain rfl:=zA B;split at h
  ·obtain⟨j,z⟩:=iN h;rw [zH] at j;cases z
   exact bOV _ _ (zC j.1) (zC j.2)
  ·cases h
theorem aG0 {P:Program} {N:Nat} {e:List Nat} {f:List Ct} {c:Code} {rc j:RC} (h:dK P N c=some rc)(h2:(match oL rc e with |some r=>aJ9 f r |none=>none)=some j):aI9 P N e f c=some j:=by unfold aI9;rw [h];exact h2
def bI1(s:Int):Bool:=decide (0<=s)&&decide (s<7)
def rH(L:List (Int×Int)):List (List V):=L.map λp=> [.int .i64 p.1,.int .i64 p.2]
theorem gG(L:List (Int×Int)):(rH L).length=L.length:=by simp [rH]
theorem aAV(L:List (Int×Int))(k:Nat)(h:k<L.length):(rH L).getD ((k:Int)).toNat []=[.int .i64 (L.getD k (0,0)).1,.int .i64 (L.getD k (0,0)).2]:=by rw [zP];simp [rH,zM,h]
def bCB(p:Int×Int):Bool:=(decide (p.1<0)||decide (4<=p.1))|| !bI1 p.2
def aXR(l:List (Int×Int))(j:Nat):Bool:=bCB (l.getD j (0,0))||decide (l.getD j (0,0)∈l.take j)
def aDA(l:List (Int×Int)):Bool:=bD (aXR l) l.length&&(decide (1<=(l.length:Int))&&decide ((l.length:Int)<=8))
structure Gr where
 lim:Int
 pro:Int
 chg:Int
deriving DecidableEq
def Gr.c(g:Gr):List V:= [.int .i64 g.lim,.int .i64 g.pro,.int .i64 g.chg]
def g0:Gr:=⟨0,0,0⟩
def aQ(L:List Gr):List (List V):=L.map Gr.c
theorem aL(L:List Gr):(aQ L).length=L.length:=by simp [aQ]
theorem cY(L:List Gr)(k:Nat)(h:k<L.length):(aQ L).getD ((k:Int)).toNat []=(L.getD k g0).c:=by rw [zP];simp [aQ,zM,h]
def aIR(g:Gr):Bool:=((((decide (g.lim<1)||decide (64<g.lim))||decide (g.pro<0))||decide (g.lim<g.pro))||decide (g.chg<0))||decide (64<g.chg)
def nS(l:List Gr)(j:Nat):Bool:=aIR (l.getD j g0)
def mY(l:List Gr):Bool:=bD (nS l) l.length&&(decide (1<=(l.length:Int))&&decide ((l.length:Int)<=4))
theorem bGS(l:List Gr)(t:Bool)(E:l.length<=100000):aM Tryz.prog 129 [] [.lst 3 t (aQ l)] (.bool (mY l)) []:=by
 refine cK Tryz.func129 ?_;generalize e:mY l=q;rw [mY] at e;refine Wk ?_;rw [aL];refine⟨Nat,λi=>i<=l.length/\bD (nS l) i=true,λi=>⟨[(0,⟨[],true,.lst 3 t (aQ l)⟩),(5,⟨[],true,.lst 3 t (aQ l)⟩),(6,⟨[],true,.int .i64 (l.length:Int)⟩),(7,⟨[],true,.int .i64 (i:Int)⟩)],[],0⟩,λi=>l.length-i,⟨0,⟨by simp,rfl⟩,?_⟩,λi D=>?_⟩
 ·exact Vw []
 obtain⟨C,m⟩:=D;dsimp only at C m⊢;refine Wk ?_;refine aC (λf=>?_) (λf=>?_)<;> try simp only [zJ,zI,zL,zK,zN] at f
 ·have f:i<l.length:=by simp [aL] at f;omega
  have B:IntKind.i64.wrap ((i:Int)+1)=((i+1:Nat):Int):=by rw [aP (by omega) (by omega)];omega
  refine Wk ?_;refine aG (⟨rfl,by omega,by rw [aL];omega⟩) ?_;rw [cY l i f];have j:nS l i=aIR (l.getD i g0):=rfl;generalize l.getD i g0=g at j;refine Wk ?_;refine aC (λz=>?_) (λz=>?_)<;> try simp only [zJ,zI,zL,zK,zN] at z
  ·have z:nS l i=true:=by rw [j,<-z];rfl
   rw [eM f z] at e;have e:q=false:=by rw [<-e];rfl
   subst e;refine Wk ?_
   try subst e
   exact Lf
  have z:nS l i=false:=by rw [j,<-z];rfl
  refine Wk ?_;rw [B];refine⟨i+1,⟨by show i+1<=_;omega,by show bD (nS l) (i+1)=true;simp only [bD,m,z];rfl⟩,?_,by show l.length- (i+1)<l.length-i;omega⟩;exact Vw []
 have f:i=l.length:=by simp [aL] at f;omega
 subst f;rw [m,Bool.true_and] at e;have e:(bif decide (1<=(l.length:Int)) then decide ((l.length:Int)<=4) else false)=q:=by rw [<-e];cases decide (1<=(l.length:Int))<;> rfl
 rw [<-aL] at e;subst e;refine Wk ?_
 try subst e
 exact Lf
theorem aTG(l:List Gr)(t:Bool)(E:l.length<=100000):aM Tryz.prog 112 [] [.lst 3 t (aQ l)] (.bool (mY l)) []:=by
 refine cK Tryz.func112 ?_;generalize e:mY l=q;rw [mY] at e;refine Wk ?_;refine⟨Nat,λi=>i<=l.length/\bD (nS l) i=true,λi=>⟨[(0,⟨[],true,.lst 3 t (aQ l)⟩),(3,⟨[],true,.int .i64 (i:Int)⟩)],[],0⟩,λi=>l.length-i,⟨0,⟨by simp,rfl⟩,?_⟩,λi D=>?_⟩
 ·exact Vw []
 obtain⟨C,m⟩:=D;dsimp only at C m⊢;refine Wk ?_;refine aC (λf=>?_) (λf=>?_)<;> try simp only [zJ,zI,zL,zK,zN] at f
 ·have f:i<l.length:=by simp [aL] at f;omega
  have B:IntKind.i64.wrap ((i:Int)+1)=((i+1:Nat):Int):=by rw [aP (by omega) (by omega)];omega
  refine Wk ?_;refine aG (⟨rfl,by omega,by rw [aL];omega⟩) ?_;rw [cY l i f];have j:nS l i=aIR (l.getD i g0):=rfl;generalize l.getD i g0=g at j;refine Wk ?_;refine aC (λz=>?_) (λz=>?_)<;> try simp only [zJ,zI,zL,zK,zN] at z
  ·have z:nS l i=true:=by rw [j,<-z];rfl
   rw [eM f z] at e;have e:q=false:=by rw [<-e];rfl
   subst e;refine Wk ?_
   try subst e
   exact Lf
  have z:nS l i=false:=by rw [j,<-z];rfl
  refine Wk ?_;rw [B];refine⟨i+1,⟨by show i+1<=_;omega,by show bD (nS l) (i+1)=true;simp only [bD,m,z];rfl⟩,?_,by show l.length- (i+1)<l.length-i;omega⟩;exact Vw []
 have f:i=l.length:=by simp [aL] at f;omega
 subst f;rw [m,Bool.true_and] at e;have e:(bif decide (1<=(l.length:Int)) then decide ((l.length:Int)<=4) else false)=q:=by rw [<-e];cases decide (1<=(l.length:Int))<;> rfl
 rw [<-aL] at e;subst e;refine Wk ?_
 try subst e
 exact Lf
def bO1(f:Nat):Bool:=jB f [82,313,147,156,153,97,267,326,167,168,172,170,316,349]
def mdA(caller slot callee:Nat):Nat:=
 bif bO1 callee||(Nat.beq callee 314&& !Nat.beq caller 314) then 1 else
 bif Nat.beq callee 272 then 3 else
 bif Nat.beq caller 82 then(bif Nat.ble slot 28 then 1 else 0) else
 match bIM callee with
 |0=>0
 |_=>1
noncomputable def E1:En Tryz.prog where
 ext:=bIY
 hext:=bNW
 qg:=some 140
 hq:=λg e=>by obtain rfl:=zsi e;exact uP
 md:=mdA
 lf:=200
 fz:=λf=>bif Nat.beq f 82 then [3,4,7] else []
def i0(n:Int):V:=.int .i64 n
def z9:List V:= [i0 (-1),i0 0,.str ⟨#[]⟩,i0 0,i0 0,i0 0,i0 0,i0 0,i0 0]
def k0:V:=.agg [.lst 15 false [[i0 0,i0 0,i0 0,.lst 0 true [],i0 0,i0 0,i0 0,i0 0,i0 0,i0 0,i0 0,i0 0,i0 0,i0 0,i0 0]],.lst 9 false [z9,z9,z9,z9,z9,z9,z9,z9],.lst 6 false [[i0 1,i0 8,i0 1,i0 2,i0 4,.lst 1 false [[i0 1],[i0 2],[i0 3],[i0 4],[i0 5],[i0 6],[i0 7],[i0 8]]]],.lst 3 false [[i0 8,i0 0,i0 0]],.lst 3 false [[.lst 0 true [],.lst 0 true [],.lst 0 true []]],.lst 1 false [[i0 0]],.lst 0 true []]
def k1:V:=.agg [.lst 15 false [[i0 0,i0 0,i0 0,.lst 0 true [],i0 1,i0 0,i0 0,i0 0,i0 0,i0 0,i0 0,i0 0,i0 0,i0 0,i0 0]],.lst 9 false [[i0 0,i0 0,.str (⟨#[0,0,0,0,0,0,0,0,0,0,0,0,0,0,0,0]⟩),i0 3,i0 0,i0 0,i0 0,i0 0,i0 0],z9,z9,z9,z9,z9,z9,z9],.lst 6 false [[i0 1,i0 8,i0 1,i0 2,i0 4,.lst 1 false [[i0 2],[i0 3],[i0 4],[i0 5],[i0 6],[i0 7],[i0 8]]]],.lst 3 false [[i0 8,i0 0,i0 1]],.lst 3 false [[.lst 1 false [],.lst 1 false [[i0 1]],.lst 1 false []]],.lst 1 false [[i0 0]],.lst 5 false []]
def k2:V:=.agg [.lst 15 false [[i0 0,i0 0,i0 0,.lst 0 true [],i0 1,i0 1,i0 3,i0 0,i0 0,i0 0,i0 0,i0 0,i0 0,i0 0,i0 0]],.lst 9 false [[i0 0,i0 0,.str (⟨#[97,98,99,0,0,0,0,0,0,0,0,0,0,0,0,0]⟩),i0 3,i0 1,i0 0,i0 0,i0 0,i0 0],z9,z9,z9,z9,z9,z9,z9],.lst 6 false [[i0 1,i0 8,i0 1,i0 2,i0 4,.lst 1 false [[i0 2],[i0 3],[i0 4],[i0 5],[i0 6],[i0 7],[i0 8]]]],.lst 3 false [[i0 8,i0 0,i0 1]],.lst 3 false [[.lst 1 false [],.lst 1 false [[i0 1]],.lst 1 false [[i0 1]]]],.lst 1 false [[i0 0]],.lst 5 false []]
def k3:V:=.agg [.lst 15 false [[i0 0,i0 0,i0 0,.lst 0 true [],i0 1,i0 1,i0 3,i0 0,i0 0,i0 0,i0 0,i0 0,i0 0,i0 0,i0 0]],.lst 9 false [[i0 0,i0 0,.str (⟨#[97,98,99,0,0,0,0,0,0,0,0,0,0,0,0,0]⟩),i0 3,i0 1,i0 0,i0 0,i0 0,i0 0],z9,z9,z9,z9,z9,z9,z9],.lst 6 false [[i0 1,i0 8,i0 1,i0 2,i0 4,.lst 1 false [[i0 2],[i0 3],[i0 4],[i0 5],[i0 6],[i0 7],[i0 8]]]],.lst 3 false [[i0 8,i0 0,i0 1]],.lst 3 false [[.lst 1 false [[i0 1]],.lst 1 false [],.lst 1 false []]],.lst 1 false [[i0 0]],.lst 5 false []]
def k4:V:=.agg [.lst 15 false [[i0 0,i0 0,i0 0,.lst 0 true [],i0 1,i0 1,i0 3,i0 0,i0 0,i0 0,i0 0,i0 0,i0 0,i0 0,i0 0]],.lst 9 false [[i0 0,i0 0,.str (⟨#[97,98,99,0,0,0,0,0,0,0,0,0,0,0,0,0]⟩),i0 3,i0 1,i0 0,i0 1,i0 0,i0 0],z9,z9,z9,z9,z9,z9,z9],.lst 6 false [[i0 1,i0 8,i0 1,i0 2,i0 4,.lst 1 false [[i0 2],[i0 3],[i0 4],[i0 5],[i0 6],[i0 7],[i0 8]]]],.lst 3 false [[i0 8,i0 0,i0 1]],.lst 3 false [[.lst 1 false [],.lst 1 false [[i0 1]],.lst 1 false [[i0 1]]]],.lst 1 false [[i0 0]],.lst 5 false []]
end Go.Proofs.YtmhapcbjjpadnaaGreat
