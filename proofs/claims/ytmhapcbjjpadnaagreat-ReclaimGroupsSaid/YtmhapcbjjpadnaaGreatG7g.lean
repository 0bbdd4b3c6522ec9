/- Caches. -/
import Derived.Test.YtmhapcbjjpadnaaGreatG6g
import Derived.Test.YtmhapcbjjpadnaaGreatG3g
import Derived.Test.YtmhapcbjjpadnaaGreatK7g
import Derived.Tactics
import Derived.Tactics2
import Derived.Defers
import Derived.Recover
import Derived.Test.YtmhapcbjjpadnaaGreatG1g
import Derived.Shelf.Strings.Repeat
import Derived.Test.YtmhapcbjjpadnaaGreatG5g
import Derived.KernelRfl
set_option linter.all false
set_option maxHeartbeats 1000000
set_option maxRecDepth 40000
open Array renaming replicate→zO
open Bool renaming and_eq_true→zH,cond_false_right→zI,cond_true_left→zJ,not_eq_false'→zK,not_eq_true'→zL,not_not→zN
open Int renaming toNat_natCast→zP
open List renaming replicate_zero→zD,length_nil→zE,exists_cons_of_ne_nil→zF,getD_eq_getElem?_getD→zM
open Nat renaming eq_of_beq_eq_true→zA,le_of_ble_eq_true→zC,zero_add→zG
namespace Go.Proofs.YtmhapcbjjpadnaaGreat
open Go Go.Sk Go.RowKit
theorem qU:Quiet Tryz.prog 140:=by
 intro e w;refine callsD_of_wpS Tryz.func140 rfl λC B z=>?_;have m:(e++zO (6-e.size) undef).size≥6:=by simp;omega
 show Code.wpS _ _ _ { tmps:=e++zO (6-e.size) undef,defers:= [] } _ _;generalize e++zO (6-e.size) undef=j at m;apply wpS_seq;apply wpS_region;have h2:2<j.size:=by omega
 have f:3<j.size:=by omega
 simp [wpOpsS,go_sem,recoverD,z,Exit.thenS,h2,f];refine wpS_cond (t:=false) (by simp [Act.eval,h2,f]) ?_;simp only [Bool.false_eq_true,if_false];refine wpS_of_wp (wp_skip ?_);cases C
 simp_all [bodyPostS,results,Tryz.f140]
def bCA:List (List V)->Option (List Int)
 | []=>some []
 | [.int .i64 x]::r=>match bCA r with
   |some l=>some (x::l)
   |none=>none
 |_=>none
theorem aRS:∀ {r:List (List V)} {l:List Int},bCA r=some l->r=aB l:=by
 intro r
 induction r with
 |nil=>intro l h;cases h;rfl
 |cons x r j=>
  intro l h;unfold bCA at h;split at h
  ·rename_i e;cases e
  ·rename_i n m e;cases e
   split at h
   ·rename_i l' f;cases h
    rw [j f];rfl
   ·cases h
  ·cases h
def aPW:V->Option (List Int)
 | .lst e _ rows=>match bCA rows with
   |some []=>some []
   |some (x::l)=>bif Nat.beq e 1 then some (x::l) else none
   |none=>none
 |_=>none
theorem aAS {v:V} {l:List Int} (h:aPW v=some l):vY v (.lst 1 false (aB l)):=by
 unfold aPW at h;split at h
 ·split at h
  ·rename_i e;cases h
   rw [aRS e];exact .nils
  ·rename_i e;rw [aRS e]
   cases f:Nat.beq _ 1 with
   |true=>rw [f] at h;cases h;rw [zA f];exact .weak
   |false=>rw [f] at h;cases h
  ·cases h
 ·cases h
def bCB:List (List V)->Option (List Zn)
 | []=>some []
 | [.int .i64 a,.int .i64 b,.int .i64 c,.int .i64 d,.int .i64 e,fr]::r=>match aPW fr with
   |some l=>match bCB r with
    |some z=>some (⟨a,b,c,d,e,l,false⟩::z)
    |none=>none
   |none=>none
 |_=>none
theorem bCC:∀ {r:List (List V)} {l:List Zn},bCB r=some l->r.length=(aJ l).length/\∀(i:Nat) (x y:List V),r[i]? =some x->(aJ l)[i]? =some y->mQ x y:=by
 intro r
 induction r with
 |nil=>intro l h;cases h;exact⟨rfl,by simp⟩
 |cons x r D=>
  intro l h;unfold bCB at h;split at h
  ·rename_i e;cases e
  ·rename_i a b c d e F G m;cases m
   split at h
   ·rename_i E B;split at h
    ·rename_i z C;cases h
     obtain⟨h1,h2⟩:=D C;refine⟨by simp [aJ] at h1⊢;exact h1,λi x y f j=>?_⟩
     cases i with
     |zero=> simp only [aJ,List.map_cons,List.getElem?_cons_zero,zse] at f j;subst f j;exact .cons (.refl _) (.cons (.refl _) (.cons (.refl _) (.cons (.refl _) (.cons (.refl _) (.cons (aAS B) .nil)))))
     |succ i=>exact h2 i x y (by simpa using f) (by simpa [aJ] using j)
    ·cases h
   ·cases h
  ·cases h
def aMU:V->Option (List Zn)
 | .lst e _ rows=>match bCB rows with
   |some l=>bif Nat.beq e 6||l.isEmpty then some l else none
   |none=>none
 |_=>none
theorem aFY {v:V} {l:List Zn} (h:aMU v=some l):vY v (.lst 6 false (aJ l)):=by
 unfold aMU at h;split at h
 ·rename_i e t j;split at h
  ·rename_i l' m;obtain⟨h1,h2⟩:=bCC m
   cases f:(Nat.beq e 6||l'.isEmpty) with
   |false=>rw [f] at h;cases h
   |true=>
    rw [f] at h;cases h
    refine .lst ?_ (by simp) h1 h2;rw [Bool.or_eq_true] at f;rcases f with f |f
    ·exact .inl (zA f)
    ·right;rw [List.isEmpty_iff.1 f] at h1;exact List.length_eq_zero_iff.1 (by rw [h1];rfl)
  ·cases h
 ·cases h
def aIP:V->Option Ls
 | .agg [a,i,r]=>match aPW a with
   |some A=>match aPW i with
    |some I=>match aPW r with
     |some R=>some ⟨A,I,R⟩
     |none=>none
    |none=>none
   |none=>none
 |_=>none
theorem aAT {v:V} {l:Ls} (h:aIP v=some l):vY v (.agg l.c):=by
 unfold aIP at h;split at h
 ·split at h
  ·rename_i h1;split at h
   ·rename_i h2;split at h
    ·rename_i e;cases h
     exact .aggs (.cons (aAS h1) (.cons (aAS h2) (.cons (aAS e) .nil)))
    ·cases h
   ·cases h
  ·cases h
 ·cases h
def smZ(l:List Zn):Bool:=Nat.ble l.length 100000&&l.all λz=>Nat.ble z.free.length 100000
theorem aR2 {l:List Zn} (h:smZ l=true):fF l:=by rw [smZ,zH] at h;exact⟨zC h.1,λz e=>zC (List.all_eq_true.1 h.2 z e)⟩
def smL(l:Ls):Bool:=Nat.ble l.A.length 10000&&(Nat.ble l.I.length 10000&&Nat.ble l.R.length 10000)
theorem aLS {l:Ls} (h:smL l=true):eA l:=by rw [smL,zH,zH] at h;exact⟨zC h.1,zC h.2.1,zC h.2.2⟩
def bI7(f:FuncId)(ob0:List Sk.Obj)(args:List V):Option (V×List Sk.Obj):=
 match ob0 with
 |_::_=>none
 | []=>bif Nat.beq f 130 then(match args with
  | [v]=>match aPW v with
    |some s=>bif Nat.ble s.length 100000 then some (.tup [.lst 6 false (aJ (newF s).1),.int .i64 (newF s).2],[]) else none
    |none=>none
  |_=>none) else
   bif Nat.beq f 109 then(match args with
    | [v,.int .i64 p,.bool u]=>match aMU v with
      |some l=>bif smZ l then some (.tup [.lst 6 false (aJ (cS (l.map jD) l p u).1),.int .i64 (cS (l.map jD) l p u).2.1,.int .i64 (cS (l.map jD) l p u).2.2],[]) else none
      |none=>none
    |_=>none) else
   bif Nat.beq f 247 then(match args with
    | [v,.int .i64 p]=>match aMU v with
      |some l=>bif smZ l then some (.tup [.lst 6 false (aJ (eT (l.map jD) l p).1),.int .i64 (eT (l.map jD) l p).2],[]) else none
      |none=>none
    |_=>none) else
   bif Nat.beq f 211 then(match args with
    | [v]=>match aMU v with
      |some l=>bif smZ l then some (.bool (aZ l),[]) else none
      |none=>none
    |_=>none) else
   bif Nat.beq f 231 then(match args with
    | [v]=>match aIP v with
      |some l=>bif smL l then some (.bool (eB l),[]) else none
      |none=>none
    |_=>none) else
   bif Nat.beq f 149 then(match args with
    | [v,.int .i64 p,.bool u]=>match aIP v with
      |some l=>bif smL l then some (.tup [.agg (aU8 l p u).1.c,.int .i64 (aU8 l p u).2],[]) else none
      |none=>none
    |_=>none) else
   bif Nat.beq f 245 then(match args with
    | [v,.int .i64 p]=>match aIP v with
      |some l=>bif smL l then some (.tup [.agg (kL l p).1.c,.int .i64 (kL l p).2],[]) else none
      |none=>none
    |_=>none) else
   bif Nat.beq f 201 then(match args with
    | [v,.int .i64 p]=>match aIP v with
      |some l=>bif smL l then some (.tup [.agg (oD l p).1.c,.int .i64 (oD l p).2],[]) else none
      |none=>none
    |_=>none) else none
theorem iC {α:Type} {b:Bool} {x y:α} (h:(bif b then some x else none)=some y):b=true/\x=y:=by
 cases b with
 |true=>exact⟨rfl,zsi h⟩
 |false=>cases h
theorem bMK(f:FuncId)(ob0:List Sk.Obj)(args:List V)(v:V)(z:List Sk.Obj)(h:bI7 f ob0 args=some (v,z)):aM Tryz.prog f ob0 args v z:=by
 unfold bI7 at h;split at h
 ·cases h
 cases h1:Nat.beq f 130 with
 |true=>
  rw [h1] at h;obtain rfl:=zA h1;dsimp only [zct] at h;split at h
  ·split at h
   ·rename_i j;obtain⟨e,m⟩:=iC h;cases m
    exact(bNE _ _ (zC e)).le (.cons (aAS j) .nil) (.refl _) (pE.refl _)
   ·cases h
  ·cases h
 |false=>
 rw [h1] at h;dsimp only [zcf] at h
 cases h1:Nat.beq f 109 with
 |true=>
  rw [h1] at h;obtain rfl:=zA h1;dsimp only [zct] at h;split at h
  ·split at h
   ·rename_i j;obtain⟨e,m⟩:=iC h;cases m
    exact(bG2 _ _ _ _ (aR2 e)).le (.cons (aFY j) (.refl _)) (.refl _) (pE.refl _)
   ·cases h
  ·cases h
 |false=>
 rw [h1] at h;dsimp only [zcf] at h
 cases h1:Nat.beq f 247 with
 |true=>
  rw [h1] at h;obtain rfl:=zA h1;dsimp only [zct] at h;split at h
  ·split at h
   ·rename_i j;obtain⟨e,m⟩:=iC h;cases m
    exact(bGO _ _ _ (aR2 e)).le (.cons (aFY j) (.refl _)) (.refl _) (pE.refl _)
   ·cases h
  ·cases h
 |false=>
 rw [h1] at h;dsimp only [zcf] at h
 cases h1:Nat.beq f 211 with
 |true=>
  rw [h1] at h;obtain rfl:=zA h1;dsimp only [zct] at h;split at h
  ·split at h
   ·rename_i j;obtain⟨e,m⟩:=iC h;cases m
    exact(aZD _ _ (aR2 e)).le (.cons (aFY j) (.refl _)) (.refl _) (pE.refl _)
   ·cases h
  ·cases h
 |false=>
 rw [h1] at h;dsimp only [zcf] at h
 cases h1:Nat.beq f 231 with
 |true=>
  rw [h1] at h;obtain rfl:=zA h1;dsimp only [zct] at h;split at h
  ·split at h
   ·rename_i j;obtain⟨e,m⟩:=iC h;cases m
    exact(aSQ _ (aLS e)).le (.cons (aAT j) (.refl _)) (.refl _) (pE.refl _)
   ·cases h
  ·cases h
 |false=>
 rw [h1] at h;dsimp only [zcf] at h
 cases h1:Nat.beq f 149 with
 |true=>
  rw [h1] at h;obtain rfl:=zA h1;dsimp only [zct] at h;split at h
  ·split at h
   ·rename_i j;obtain⟨e,m⟩:=iC h;cases m
    exact(bNH _ _ _ (aLS e)).le (.cons (aAT j) (.refl _)) (.refl _) (pE.refl _)
   ·cases h
  ·cases h
 |false=>
 rw [h1] at h;dsimp only [zcf] at h
 cases h1:Nat.beq f 245 with
 |true=>
  rw [h1] at h;obtain rfl:=zA h1;dsimp only [zct] at h;split at h
  ·split at h
   ·rename_i j;obtain⟨e,m⟩:=iC h;cases m
    exact(bGN _ _ (aLS e)).le (.cons (aAT j) (.refl _)) (.refl _) (pE.refl _)
   ·cases h
  ·cases h
 |false=>
 rw [h1] at h;dsimp only [zcf] at h
 cases h1:Nat.beq f 201 with
 |true=>
  rw [h1] at h;obtain rfl:=zA h1;dsimp only [zct] at h;split at h
  ·split at h
   ·rename_i j;obtain⟨e,m⟩:=iC h;cases m
    exact(bGD _ _ (aLS e)).le (.cons (aAT j) (.refl _)) (.refl _) (pE.refl _)
   ·cases h
  ·cases h
 |false=>
 rw [h1] at h;cases h
theorem aZ5(e:List (List V))(t:Bool)(f:e.length*136<=140737488355328):aM Tryz.prog 185 [] [.lst 15 t e] (.sl 0 0 e.length) [.row 15 e]:=by
 refine aM.lst_cases (λj=>?_) (λz a cap=>?_)
 ·obtain⟨r,B,rfl⟩:=zF j;refine cF Tryz.func185 ?_;refine Wk ?_;refine cE (by simp only [zD,zE,zG];omega) (by simp only [zD,zE,zG];exact f) ?_;refine Wk ?_;refine⟨[some 1],?_,rfl,?_,rfl,?_⟩
  all_goals repeat' (first |exact trivial |rfl |exact .inl rfl |exact .inr rfl |exact id |exact zbc |apply And.intro)
  simp
 ·subst z
  cases a with
  |none=> refine cF Tryz.func185 ?_;refine Wk ?_;exact⟨[none],Cl,rfl,Cl,rfl,Cl⟩
  |some m=> refine cF Tryz.func185 ?_;refine Wk ?_;exact⟨[some 1],Cl,rfl,Cl,rfl,Cl⟩
theorem aZ6(e:List (List V))(t:Bool)(f:e.length*80<=140737488355328):aM Tryz.prog 186 [] [.lst 9 t e] (.sl 0 0 e.length) [.row 9 e]:=by
 refine aM.lst_cases (λj=>?_) (λz a cap=>?_)
 ·obtain⟨r,B,rfl⟩:=zF j;refine cF Tryz.func186 ?_;refine Wk ?_;refine cE (by simp only [zD,zE,zG];omega) (by simp only [zD,zE,zG];exact f) ?_;refine Wk ?_;refine⟨[some 1],?_,rfl,?_,rfl,?_⟩
  all_goals repeat' (first |exact trivial |rfl |exact .inl rfl |exact .inr rfl |exact id |exact zbc |apply And.intro)
  simp
 ·subst z
  cases a with
  |none=> refine cF Tryz.func186 ?_;refine Wk ?_;exact⟨[none],Cl,rfl,Cl,rfl,Cl⟩
  |some m=> refine cF Tryz.func186 ?_;refine Wk ?_;exact⟨[some 1],Cl,rfl,Cl,rfl,Cl⟩
theorem aSO(e:List (List V))(t:Bool)(f:e.length*24<=140737488355328):aM Tryz.prog 188 [] [.lst 3 t e] (.sl 0 0 e.length) [.row 3 e]:=by
 refine aM.lst_cases (λj=>?_) (λz a cap=>?_)
 ·obtain⟨r,B,rfl⟩:=zF j;refine cF Tryz.func188 ?_;refine Wk ?_;refine cE (by simp only [zD,zE,zG];omega) (by simp only [zD,zE,zG];exact f) ?_;refine Wk ?_;refine⟨[some 1],?_,rfl,?_,rfl,?_⟩
  all_goals repeat' (first |exact trivial |rfl |exact .inl rfl |exact .inr rfl |exact id |exact zbc |apply And.intro)
  simp
 ·subst z
  cases a with
  |none=> refine cF Tryz.func188 ?_;refine Wk ?_;exact⟨[none],Cl,rfl,Cl,rfl,Cl⟩
  |some m=> refine cF Tryz.func188 ?_;refine Wk ?_;exact⟨[some 1],Cl,rfl,Cl,rfl,Cl⟩
theorem aZ7(e:List (List V))(t:Bool)(f:e.length*72<=140737488355328):aM Tryz.prog 189 [] [.lst 3 t e] (.sl 0 0 e.length) [.row 3 e]:=by
 refine aM.lst_cases (λj=>?_) (λz a cap=>?_)
 ·obtain⟨r,B,rfl⟩:=zF j;refine cF Tryz.func189 ?_;refine Wk ?_;refine cE (by simp only [zD,zE,zG];omega) (by simp only [zD,zE,zG];exact f) ?_;refine Wk ?_;refine⟨[some 1],?_,rfl,?_,rfl,?_⟩
  all_goals repeat' (first |exact trivial |rfl |exact .inl rfl |exact .inr rfl |exact id |exact zbc |apply And.intro)
  simp
 ·subst z
  cases a with
  |none=> refine cF Tryz.func189 ?_;refine Wk ?_;exact⟨[none],Cl,rfl,Cl,rfl,Cl⟩
  |some m=> refine cF Tryz.func189 ?_;refine Wk ?_;exact⟨[some 1],Cl,rfl,Cl,rfl,Cl⟩
theorem aNZ(e:List (List V))(t:Bool)(f:e.length*32<=140737488355328):aM Tryz.prog 190 [] [.lst 5 t e] (.sl 0 0 e.length) [.row 5 e]:=by
 refine aM.lst_cases (λj=>?_) (λz a cap=>?_)
 ·obtain⟨r,B,rfl⟩:=zF j;refine cF Tryz.func190 ?_;refine Wk ?_;refine cE (by simp only [zD,zE,zG];omega) (by simp only [zD,zE,zG];exact f) ?_;refine Wk ?_;refine⟨[some 1],?_,rfl,?_,rfl,?_⟩
  all_goals repeat' (first |exact trivial |rfl |exact .inl rfl |exact .inr rfl |exact id |exact zbc |apply And.intro)
  simp
 ·subst z
  cases a with
  |none=> refine cF Tryz.func190 ?_;refine Wk ?_;exact⟨[none],Cl,rfl,Cl,rfl,Cl⟩
  |some m=> refine cF Tryz.func190 ?_;refine Wk ?_;exact⟨[some 1],Cl,rfl,Cl,rfl,Cl⟩
theorem aAB(e:List (List V))(t:Bool)(f:e.length*8<=140737488355328):aM Tryz.prog 107 [] [.lst 1 t e] (.lst 1 false e) []:=by exact(sO e t f).lstv
theorem bJ7(e:List (List V))(t:Bool)(f:e.length*136<=140737488355328):aM Tryz.prog 185 [] [.lst 15 t e] (.lst 15 false e) []:=by exact(aZ5 e t f).lstv
theorem bJ8(e:List (List V))(t:Bool)(f:e.length*80<=140737488355328):aM Tryz.prog 186 [] [.lst 9 t e] (.lst 9 false e) []:=by exact(aZ6 e t f).lstv
theorem bJ9(e:List (List V))(t:Bool)(f:e.length*64<=140737488355328):aM Tryz.prog 187 [] [.lst 6 t e] (.lst 6 false e) []:=by exact(aSN e t f).lstv
theorem bJA(e:List (List V))(t:Bool)(f:e.length*24<=140737488355328):aM Tryz.prog 188 [] [.lst 3 t e] (.lst 3 false e) []:=by exact(aSO e t f).lstv
theorem bJB(e:List (List V))(t:Bool)(f:e.length*72<=140737488355328):aM Tryz.prog 189 [] [.lst 3 t e] (.lst 3 false e) []:=by exact(aZ7 e t f).lstv
theorem bJC(e:List (List V))(t:Bool)(f:e.length*32<=140737488355328):aM Tryz.prog 190 [] [.lst 5 t e] (.lst 5 false e) []:=by exact(aNZ e t f).lstv
open Go.Shelf
def nS:Go.Shelf.Ren:=⟨λ|105=>158 |212=>254 |99=>255 |165=>256 |166=>257 |170=>258 |169=>259 |263=>321 |264=>322 |206=>323 |240=>324 |241=>325 |276=>351 |277=>352 |n=>n,λ|9=>9 |3=>3 |4=>4 |20=>20 |0=>0 |46=>264 |109=>265 |5=>5 |72=>270 |76=>273 |51=>315 |146=>316 |53=>114 |148=>318 |70=>268 |37=>106 |75=>272 |127=>320 |164=>333 |80=>275 |n=>n,λ|n=>n⟩
theorem nR:Go.Proofs.Lays.n105 Tryz.prog nS where
 mixed:=by kernel_rfl
 f99:=Tryz.func255.trans (congrArg some (by kernel_rfl))
 f105:=Tryz.func158.trans (congrArg some (by kernel_rfl))
 f165:=Tryz.func256.trans (congrArg some (by kernel_rfl))
 f166:=Tryz.func257.trans (congrArg some (by kernel_rfl))
 f169:=Tryz.func259.trans (congrArg some (by kernel_rfl))
 f170:=Tryz.func258.trans (congrArg some (by kernel_rfl))
 f206:=Tryz.func323.trans (congrArg some (by kernel_rfl))
 f212:=Tryz.func254.trans (congrArg some (by kernel_rfl))
 f240:=Tryz.func324.trans (congrArg some (by kernel_rfl))
 f241:=Tryz.func325.trans (congrArg some (by kernel_rfl))
 f263:=Tryz.func321.trans (congrArg some (by kernel_rfl))
 f264:=Tryz.func322.trans (congrArg some (by kernel_rfl))
 f276:=Tryz.func351.trans (congrArg some (by kernel_rfl))
 f277:=Tryz.func352.trans (congrArg some (by kernel_rfl))
 t0:=Tryz.underlying0
 a0:=Tryz.isAgg0
 z0:=Tryz.sizeOf0
 v0:=Tryz.zeroValue0
 t3:=Tryz.underlying3
 a3:=Tryz.isAgg3
 z3:=Tryz.sizeOf3
 v3:=Tryz.zeroValue3
 t4:=Tryz.underlying4
 a4:=Tryz.isAgg4
 z4:=Tryz.sizeOf4
 v4:=Tryz.zeroValue4
 t5:=Tryz.underlying5
 a5:=Tryz.isAgg5
 z5:=Tryz.sizeOf5
 v5:=Tryz.zeroValue5
 t9:=Tryz.underlying9
 a9:=Tryz.isAgg9
 z9:=Tryz.sizeOf9
 v9:=Tryz.zeroValue9
 t20:=Tryz.underlying20
 a20:=Tryz.isAgg20
 z20:=Tryz.sizeOf20
 v20:=Tryz.zeroValue20
 t37:=Tryz.underlying106
 a37:=Tryz.isAgg106
 z37:=Tryz.sizeOf106
 v37:=Tryz.zeroValue106
 t46:=Tryz.underlying264
 a46:=Tryz.isAgg264
 z46:=Tryz.sizeOf264
 v46:=Tryz.zeroValue264
 t51:=Tryz.underlying315
 a51:=Tryz.isAgg315
 z51:=Tryz.sizeOf315
 v51:=Tryz.zeroValue315
 t53:=Tryz.underlying114
 a53:=Tryz.isAgg114
 z53:=Tryz.sizeOf114
 v53:=Tryz.zeroValue114
 t70:=Tryz.underlying268
 a70:=Tryz.isAgg268
 z70:=Tryz.sizeOf268
 v70:=Tryz.zeroValue268
 t72:=Tryz.underlying270
 a72:=Tryz.isAgg270
 z72:=Tryz.sizeOf270
 v72:=Tryz.zeroValue270
 t75:=Tryz.underlying272
 a75:=Tryz.isAgg272
 z75:=Tryz.sizeOf272
 v75:=Tryz.zeroValue272
 t76:=Tryz.underlying273
 a76:=Tryz.isAgg273
 z76:=Tryz.sizeOf273
 v76:=Tryz.zeroValue273
 t109:=Tryz.underlying265
 a109:=Tryz.isAgg265
 z109:=Tryz.sizeOf265
 v109:=Tryz.zeroValue265
 t127:=Tryz.underlying320
 a127:=Tryz.isAgg320
 z127:=Tryz.sizeOf320
 v127:=Tryz.zeroValue320
 t146:=Tryz.underlying316
 a146:=Tryz.isAgg316
 z146:=Tryz.sizeOf316
 v146:=Tryz.zeroValue316
 t148:=Tryz.underlying318
 a148:=Tryz.isAgg318
 z148:=Tryz.sizeOf318
 v148:=Tryz.zeroValue318
 t164:=Tryz.underlying333
 a164:=Tryz.isAgg333
 z164:=Tryz.sizeOf333
 v164:=Tryz.zeroValue333
theorem aN5:Builder.Extra Tryz.prog nS where
 sizeBuilder:=by kernel_rfl
 liesBuilder:=by kernel_rfl
 t5:=nR.t5
 a5:=nR.a5
 z5:=nR.z5
 v5:=nR.v5
 infoByte:=by kernel_rfl
 cellsByte:=by kernel_rfl
 sizeByte:=by kernel_rfl
 neB5:=by decide
theorem bCP:nS.f 105=158:=by kernel_rfl
def bQ1(s:ByteArray)(c:Nat):ByteArray:=⟨(Lib.repeatL s.data.toList c).toArray⟩
theorem bNL(s:ByteArray)(c:Nat)(hc:c<=9223372036854775807)(z:s.size*c<=140737488355328):aM Tryz.prog 158 [] [.str s,.int .i64 (c:Int)] (.str (bQ1 s c)) []:=by
 intro U σ w f G H j
 obtain⟨c0,F,rfl⟩:∃a b,f= #[a,b]:=by
  rcases f with ⟨L⟩
  match L,H with
  | [a,b],_=>exact⟨a,b,rfl⟩
 have D:=j 0 _ c0 rfl rfl;have E:=j 1 _ F rfl rfl;cases D
 cases E
 have B:=Any.strings_Repeat nR aN5 s c w hc z;rw [bCP] at B;refine B.mono ?_;rintro e J ⟨rfl,m⟩;have C:cB (λ_=>False) w J:=⟨m.os,m.tape,m.output,m.size,λb h _=>m.block b h⟩;exact⟨_,σ,rfl,G.of_keep C,.str _,bM.of_keep C⟩
def bHX(f:Nat):Nat:=bif Nat.beq f 107 then 1 else bif Nat.beq f 185 then 15 else bif Nat.beq f 186 then 9 else bif Nat.beq f 187 then 6 else bif Nat.beq f 188 then 3 else bif Nat.beq f 189 then 3 else bif Nat.beq f 190 then 5 else 0
def bHW(own:Bool)(es:Nat)(args:List V):Option (V×List Sk.Obj):=match args with
 | [.lst _ _ []]=>match own with
   |true=>some (.sl 0 0 0,[.row es []])
   |false=>some (.lst es false [],[])
 | [.lst e _ (x::xs)]=>match own with
   |true=>bif Nat.beq e es&&Nat.ble (x::xs).length 100000 then some (.sl 0 0 (x::xs).length,[.row es (x::xs)]) else none
   |false=>bif Nat.beq e es&&Nat.ble (x::xs).length 100000 then some (.lst es false (x::xs),[]) else none
 |_=>none
theorem rH {f es:Nat} {B:Bool} (g:∀(e:List (List V)) (t:Bool),e.length<=100000->aM Tryz.prog f [] [.lst es t e] (.lst es false e) [])(h:∀(e:List (List V)) (t:Bool),e.length<=100000->aM Tryz.prog f [] [.lst es t e] (.sl 0 0 e.length) [.row es e]) {args:List V} {v:V} {m:List Sk.Obj} (hc:bHW B es args=some (v,m)):aM Tryz.prog f [] args v m:=by
 unfold bHW at hc;split at hc
 ·split at hc
  ·cases hc
   exact(h [] false (by simp)).le (.cons .nils .nil) (.refl _) (pE.refl _)
  ·cases hc
   exact(g [] false (by simp)).le (.cons .nils .nil) (.refl _) (pE.refl _)
 ·split at hc
  ·obtain⟨j,z⟩:=iC hc;rw [zH] at j;cases z
   rw [zA j.1];exact h _ _ (zC j.2)
  ·obtain⟨j,z⟩:=iC hc;rw [zH] at j;cases z
   rw [zA j.1];exact g _ _ (zC j.2)
 ·cases hc
def bI8(own:Bool)(f:FuncId)(ob0:List Sk.Obj)(args:List V):Option (V×List Sk.Obj):=
 match ob0 with
 |_::_=>none
 | []=>match bHX f with
   |0=>bI7 f [] args
   |es+1=>bHW own (es+1) args
theorem bML(C:Bool)(f:FuncId)(ob0:List Sk.Obj)(args:List V)(v:V)(B:List Sk.Obj)(h:bI8 C f ob0 args=some (v,B)):aM Tryz.prog f ob0 args v B:=by
 unfold bI8 at h;split at h
 ·cases h
 ·split at h
  ·exact bMK _ _ _ _ _ h
  ·rename_i es j;unfold bHX at j
   cases h1:Nat.beq f 107 with
   |true=>
    obtain rfl:=zA h1;have m:1=es+1:=by rw [h1] at j;exact j
    rw [<-m] at h;exact rH (λe t z=>aAB e t (by omega)) (λe t z=>sO e t (by omega)) h
   |false=>
   rw [h1] at j;dsimp only [zcf] at j
   cases h1:Nat.beq f 185 with
   |true=>
    obtain rfl:=zA h1;have m:15=es+1:=by rw [h1] at j;exact j
    rw [<-m] at h;exact rH (λe t z=>bJ7 e t (by omega)) (λe t z=>aZ5 e t (by omega)) h
   |false=>
   rw [h1] at j;dsimp only [zcf] at j
   cases h1:Nat.beq f 186 with
   |true=>
    obtain rfl:=zA h1;have m:9=es+1:=by rw [h1] at j;exact j
    rw [<-m] at h;exact rH (λe t z=>bJ8 e t (by omega)) (λe t z=>aZ6 e t (by omega)) h
   |false=>
   rw [h1] at j;dsimp only [zcf] at j
   cases h1:Nat.beq f 187 with
   |true=>
    obtain rfl:=zA h1;have m:6=es+1:=by rw [h1] at j;exact j
    rw [<-m] at h;exact rH (λe t z=>bJ9 e t (by omega)) (λe t z=>aSN e t (by omega)) h
   |false=>
   rw [h1] at j;dsimp only [zcf] at j
   cases h1:Nat.beq f 188 with
   |true=>
    obtain rfl:=zA h1;have m:3=es+1:=by rw [h1] at j;exact j
    rw [<-m] at h;exact rH (λe t z=>bJA e t (by omega)) (λe t z=>aSO e t (by omega)) h
   |false=>
   rw [h1] at j;dsimp only [zcf] at j
   cases h1:Nat.beq f 189 with
   |true=>
    obtain rfl:=zA h1;have m:3=es+1:=by rw [h1] at j;exact j
    rw [<-m] at h;exact rH (λe t z=>bJB e t (by omega)) (λe t z=>aZ7 e t (by omega)) h
   |false=>
   rw [h1] at j;dsimp only [zcf] at j
   cases h1:Nat.beq f 190 with
   |true=>
    obtain rfl:=zA h1;have m:5=es+1:=by rw [h1] at j;exact j
    rw [<-m] at h;exact rH (λe t z=>bJC e t (by omega)) (λe t z=>aNZ e t (by omega)) h
   |false=>
   rw [h1] at j;dsimp only [zcf] at j;cases j
def bI9(own:Bool)(f:FuncId)(ob0:List Sk.Obj)(args:List V):Option (V×List Sk.Obj):=
 match Nat.beq f 158 with
 |false=>bI8 own f ob0 args
 |true=>match ob0,args with
  | [],[.str s,.int .i64 (.ofNat c)]=>bif Nat.ble c 9223372036854775807&&Nat.ble (s.size*c) 140737488355328 then some (.str (bQ1 s c),[]) else none
  |_,_=>none
theorem bMM(m:Bool)(f:FuncId)(ob0:List Sk.Obj)(args:List V)(v:V)(e:List Sk.Obj)(h:bI9 m f ob0 args=some (v,e)):aM Tryz.prog f ob0 args v e:=by
 unfold bI9 at h;split at h
 ·exact bML _ _ _ _ _ _ h
 ·rename_i B;obtain rfl:=zA B;split at h
  ·obtain⟨j,z⟩:=iC h;rw [zH] at j;cases z
   exact bNL _ _ (zC j.1) (zC j.2)
  ·cases h
theorem aFA {P:Program} {N:Nat} {e:List Nat} {f:List Ct} {c:Code} {rc j:RC} (h:dF P N c=some rc)(h2:(match nY rc e with |some r=>aIO f r |none=>none)=some j):aHK P N e f c=some j:=by unfold aHK;rw [h];exact h2
def bHF(s:Int):Bool:=decide (0<=s)&&decide (s<7)
def qX(L:List (Int×Int)):List (List V):=L.map λp=> [.int .i64 p.1,.int .i64 p.2]
theorem gF(L:List (Int×Int)):(qX L).length=L.length:=by simp [qX]
theorem aAF(L:List (Int×Int))(k:Nat)(h:k<L.length):(qX L).getD ((k:Int)).toNat []=[.int .i64 (L.getD k (0,0)).1,.int .i64 (L.getD k (0,0)).2]:=by rw [zP];simp [qX,zM,h]
def bBW(p:Int×Int):Bool:=(decide (p.1<0)||decide (4<=p.1))|| !bHF p.2
def aWT(l:List (Int×Int))(j:Nat):Bool:=bBW (l.getD j (0,0))||decide (l.getD j (0,0)∈l.take j)
def aCN(l:List (Int×Int)):Bool:=bC (aWT l) l.length&&(decide (1<=(l.length:Int))&&decide ((l.length:Int)<=8))
structure Gr where
 lim:Int
 pro:Int
 chg:Int
deriving DecidableEq
def Gr.c(g:Gr):List V:= [.int .i64 g.lim,.int .i64 g.pro,.int .i64 g.chg]
def g0:Gr:=⟨0,0,0⟩
def aR(L:List Gr):List (List V):=L.map Gr.c
theorem aL(L:List Gr):(aR L).length=L.length:=by simp [aR]
theorem dV(L:List Gr)(k:Nat)(h:k<L.length):(aR L).getD ((k:Int)).toNat []=(L.getD k g0).c:=by rw [zP];simp [aR,zM,h]
def aI6(g:Gr):Bool:=((((decide (g.lim<1)||decide (64<g.lim))||decide (g.pro<0))||decide (g.lim<g.pro))||decide (g.chg<0))||decide (64<g.chg)
def nD(l:List Gr)(j:Nat):Bool:=aI6 (l.getD j g0)
def mV(l:List Gr):Bool:=bC (nD l) l.length&&(decide (1<=(l.length:Int))&&decide ((l.length:Int)<=4))
theorem bG6(l:List Gr)(t:Bool)(E:l.length<=100000):aM Tryz.prog 129 [] [.lst 3 t (aR l)] (.bool (mV l)) []:=by
 refine cF Tryz.func129 ?_;generalize e:mV l=q;rw [mV] at e;refine Wk ?_;rw [aL];refine⟨Nat,λi=>i<=l.length/\bC (nD l) i=true,λi=>⟨[(0,⟨[],true,.lst 3 t (aR l)⟩),(5,⟨[],true,.lst 3 t (aR l)⟩),(6,⟨[],true,.int .i64 (l.length:Int)⟩),(7,⟨[],true,.int .i64 (i:Int)⟩)],[],0⟩,λi=>l.length-i,⟨0,⟨by simp,rfl⟩,?_⟩,λi D=>?_⟩
 ·exact Vw []
 obtain⟨C,m⟩:=D;dsimp only at C m⊢;refine Wk ?_;refine aC (λf=>?_) (λf=>?_)<;> try simp only [zJ,zI,zL,zK,zN] at f
 ·have f:i<l.length:=by simp [aL] at f;omega
  have B:IntKind.i64.wrap ((i:Int)+1)=((i+1:Nat):Int):=by rw [aN (by omega) (by omega)];omega
  refine Wk ?_;refine aI (⟨rfl,by omega,by rw [aL];omega⟩) ?_;rw [dV l i f];have j:nD l i=aI6 (l.getD i g0):=rfl;generalize l.getD i g0=g at j;refine Wk ?_;refine aC (λz=>?_) (λz=>?_)<;> try simp only [zJ,zI,zL,zK,zN] at z
  ·have z:nD l i=true:=by rw [j,<-z];rfl
   rw [eF f z] at e;have e:q=false:=by rw [<-e];rfl
   subst e;refine Wk ?_
   try subst e
   exact Lf
  have z:nD l i=false:=by rw [j,<-z];rfl
  refine Wk ?_;rw [B];refine⟨i+1,⟨by show i+1<=_;omega,by show bC (nD l) (i+1)=true;simp only [bC,m,z];rfl⟩,?_,by show l.length- (i+1)<l.length-i;omega⟩;exact Vw []
 have f:i=l.length:=by simp [aL] at f;omega
 subst f;rw [m,Bool.true_and] at e;have e:(bif decide (1<=(l.length:Int)) then decide ((l.length:Int)<=4) else false)=q:=by rw [<-e];cases decide (1<=(l.length:Int))<;> rfl
 rw [<-aL] at e;subst e;refine Wk ?_
 try subst e
 exact Lf
theorem aYX(l:List Gr)(t:Bool)(E:l.length<=100000):aM Tryz.prog 112 [] [.lst 3 t (aR l)] (.bool (mV l)) []:=by
 refine cF Tryz.func112 ?_;generalize e:mV l=q;rw [mV] at e;refine Wk ?_;refine⟨Nat,λi=>i<=l.length/\bC (nD l) i=true,λi=>⟨[(0,⟨[],true,.lst 3 t (aR l)⟩),(3,⟨[],true,.int .i64 (i:Int)⟩)],[],0⟩,λi=>l.length-i,⟨0,⟨by simp,rfl⟩,?_⟩,λi D=>?_⟩
 ·exact Vw []
 obtain⟨C,m⟩:=D;dsimp only at C m⊢;refine Wk ?_;refine aC (λf=>?_) (λf=>?_)<;> try simp only [zJ,zI,zL,zK,zN] at f
 ·have f:i<l.length:=by simp [aL] at f;omega
  have B:IntKind.i64.wrap ((i:Int)+1)=((i+1:Nat):Int):=by rw [aN (by omega) (by omega)];omega
  refine Wk ?_;refine aI (⟨rfl,by omega,by rw [aL];omega⟩) ?_;rw [dV l i f];have j:nD l i=aI6 (l.getD i g0):=rfl;generalize l.getD i g0=g at j;refine Wk ?_;refine aC (λz=>?_) (λz=>?_)<;> try simp only [zJ,zI,zL,zK,zN] at z
  ·have z:nD l i=true:=by rw [j,<-z];rfl
   rw [eF f z] at e;have e:q=false:=by rw [<-e];rfl
   subst e;refine Wk ?_
   try subst e
   exact Lf
  have z:nD l i=false:=by rw [j,<-z];rfl
  refine Wk ?_;rw [B];refine⟨i+1,⟨by show i+1<=_;omega,by show bC (nD l) (i+1)=true;simp only [bC,m,z];rfl⟩,?_,by show l.length- (i+1)<l.length-i;omega⟩;exact Vw []
 have f:i=l.length:=by simp [aL] at f;omega
 subst f;rw [m,Bool.true_and] at e;have e:(bif decide (1<=(l.length:Int)) then decide ((l.length:Int)<=4) else false)=q:=by rw [<-e];cases decide (1<=(l.length:Int))<;> rfl
 rw [<-aL] at e;subst e;refine Wk ?_
 try subst e
 exact Lf
def bMR(f:Nat):Bool:=iS f [82,313,147,156,153,97,267,326,167,168,172,170,316,349]
def mdA(caller slot callee:Nat):Nat:=
 bif bMR callee||(Nat.beq callee 314&& !Nat.beq caller 314) then 1 else
 bif Nat.beq callee 272 then 3 else
 bif Nat.beq caller 82 then(bif Nat.ble slot 28 then 1 else 0) else
 match bHX callee with
 |0=>0
 |_=>1
noncomputable def E1:En Tryz.prog where
 ext:=bI9
 hext:=bMM
 qg:=some 140
 hq:=λg e=>by obtain rfl:=zsi e;exact qU
 md:=mdA
 lf:=200
 fz:=λf=>bif Nat.beq f 82 then [3,4,7] else []
def i0(n:Int):V:=.int .i64 n
def z9:List V:= [i0 (-1),i0 0,.str ⟨#[]⟩,i0 0,i0 0,i0 0,i0 0,i0 0,i0 0]
def k0:V:=.agg [.lst 15 false [[i0 0,i0 0,i0 0,.lst 0 true [],i0 0,i0 0,i0 0,i0 0,i0 0,i0 0,i0 0,i0 0,i0 0,i0 0,i0 0]],.lst 9 false [z9,z9,z9,z9,z9,z9,z9,z9],.lst 6 false [[i0 1,i0 8,i0 1,i0 2,i0 4,.lst 1 false [[i0 1],[i0 2],[i0 3],[i0 4],[i0 5],[i0 6],[i0 7],[i0 8]]]],.lst 3 false [[i0 8,i0 0,i0 0]],.lst 3 false [[.lst 0 true [],.lst 0 true [],.lst 0 true []]],.lst 1 false [[i0 0]],.lst 0 true []]
def k1:V:=.agg [.lst 15 false [[i0 0,i0 0,i0 0,.lst 0 true [],i0 1,i0 0,i0 0,i0 0,i0 0,i0 0,i0 0,i0 0,i0 0,i0 0,i0 0]],.lst 9 false [[i0 0,i0 0,.str (⟨#[0,0,0,0,0,0,0,0,0,0,0,0,0,0,0,0]⟩),i0 3,i0 0,i0 0,i0 0,i0 0,i0 0],z9,z9,z9,z9,z9,z9,z9],.lst 6 false [[i0 1,i0 8,i0 1,i0 2,i0 4,.lst 1 false [[i0 2],[i0 3],[i0 4],[i0 5],[i0 6],[i0 7],[i0 8]]]],.lst 3 false [[i0 8,i0 0,i0 1]],.lst 3 false [[.lst 1 false [],.lst 1 false [[i0 1]],.lst 1 false []]],.lst 1 false [[i0 0]],.lst 5 false []]
def k2:V:=.agg [.lst 15 false [[i0 0,i0 0,i0 0,.lst 0 true [],i0 1,i0 1,i0 3,i0 0,i0 0,i0 0,i0 0,i0 0,i0 0,i0 0,i0 0]],.lst 9 false [[i0 0,i0 0,.str (⟨#[97,98,99,0,0,0,0,0,0,0,0,0,0,0,0,0]⟩),i0 3,i0 1,i0 0,i0 0,i0 0,i0 0],z9,z9,z9,z9,z9,z9,z9],.lst 6 false [[i0 1,i0 8,i0 1,i0 2,i0 4,.lst 1 false [[i0 2],[i0 3],[i0 4],[i0 5],[i0 6],[i0 7],[i0 8]]]],.lst 3 false [[i0 8,i0 0,i0 1]],.lst 3 false [[.lst 1 false [],.lst 1 false [[i0 1]],.lst 1 false [[i0 1]]]],.lst 1 false [[i0 0]],.lst 5 false []]
def k3:V:=.agg [.lst 15 false [[i0 0,i0 0,i0 0,.lst 0 true [],i0 1,i0 1,i0 3,i0 0,i0 0,i0 0,i0 0,i0 0,i0 0,i0 0,i0 0]],.lst 9 false [[i0 0,i0 0,.str (⟨#[97,98,99,0,0,0,0,0,0,0,0,0,0,0,0,0]⟩),i0 3,i0 1,i0 0,i0 0,i0 0,i0 0],z9,z9,z9,z9,z9,z9,z9],.lst 6 false [[i0 1,i0 8,i0 1,i0 2,i0 4,.lst 1 false [[i0 2],[i0 3],[i0 4],[i0 5],[i0 6],[i0 7],[i0 8]]]],.lst 3 false [[i0 8,i0 0,i0 1]],.lst 3 false [[.lst 1 false [[i0 1]],.lst 1 false [],.lst 1 false []]],.lst 1 false [[i0 0]],.lst 5 false []]
def k4:V:=.agg [.lst 15 false [[i0 0,i0 0,i0 0,.lst 0 true [],i0 1,i0 1,i0 3,i0 0,i0 0,i0 0,i0 0,i0 0,i0 0,i0 0,i0 0]],.lst 9 false [[i0 0,i0 0,.str (⟨#[97,98,99,0,0,0,0,0,0,0,0,0,0,0,0,0]⟩),i0 3,i0 1,i0 0,i0 1,i0 0,i0 0],z9,z9,z9,z9,z9,z9,z9],.lst 6 false [[i0 1,i0 8,i0 1,i0 2,i0 4,.lst 1 false [[i0 2],[i0 3],[i0 4],[i0 5],[i0 6],[i0 7],[i0 8]]]],.lst 3 false [[i0 8,i0 0,i0 1]],.lst 3 false [[.lst 1 false [],.lst 1 false [[i0 1]],.lst 1 false [[i0 1]]]],.lst 1 false [[i0 0]],.lst 5 false []]
abbrev Tb:=List (Nat×List V×V)
def aS8:Tb->Nat->List V->Option V
 | [],_,_=>none
 | (g,a,v)::r,f,args=>match Nat.beq g f&&eqL (eqV 12) a args with
   |true=>some v
   |false=>aS8 r f args
def bHO:Tb->Prop
 | []=>True
 | (g,a,v)::r=>aM Tryz.prog g [] a v []/\bHO r
theorem aNQ:∀ {t:Tb} {f:Nat} {args:List V} {v:V},bHO t->aS8 t f args=some v->aM Tryz.prog f [] args v []
 | [],_,_,_,_,h=>by cases h
 | (g,a,u)::r,f,args,v,j,h=>by
   unfold aS8 at h;split at h
   ·rename_i e;rw [zH] at e;obtain rfl:=zA e.1;rw [<-pJ (aA8 12) e.2];cases h
    exact j.1
   ·exact aNQ j.2 h
def bMC(t:Tb)(own:Bool)(f:FuncId)(ob0:List Sk.Obj)(args:List V):Option (V×List Sk.Obj):=
 match ob0 with
 | []=>match aS8 t f args with
   |some v=>some (v,[])
   |none=>none
 |_::_=>none
noncomputable def E2(t:Tb)(ht:bHO t):En Tryz.prog where
 ext:=bMC t
 hext:=λown f ob0 args v ob1 h=>by
  unfold bMC at h;split at h
  ·split at h
   ·rename_i hl;cases h
    exact aNQ ht hl
   ·cases h
  ·cases h
 qg:=some 140
 hq:=λg e=>by obtain rfl:=zsi e;exact qU
 md:=λ_ _ f=>bif Nat.beq f 36 then 2 else 0
 lf:=200
 fz:=λ_=> []
end Go.Proofs.YtmhapcbjjpadnaaGreat
