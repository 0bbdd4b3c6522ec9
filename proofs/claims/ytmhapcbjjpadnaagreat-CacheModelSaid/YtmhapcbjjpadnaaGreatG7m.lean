/- Caches. -/
import Derived.Test.YtmhapcbjjpadnaaGreatG6m
import Derived.Test.YtmhapcbjjpadnaaGreatG3m
import Derived.Test.YtmhapcbjjpadnaaGreatK7m
import Derived.Tactics
import Derived.Tactics2
import Derived.Defers
import Derived.Recover
import Derived.Test.YtmhapcbjjpadnaaGreatG1m
import Derived.Shelf.Strings.Repeat
import Derived.Test.YtmhapcbjjpadnaaGreatG5m
import Derived.KernelRfl
set_option linter.unusedSimpArgs false
set_option linter.unusedVariables false
open Array renaming replicate→zO
open Bool renaming and_eq_true→zH,cond_false_right→zI,cond_true_left→zJ,not_eq_false'→zK,not_eq_true'→zL,not_not→zN
open Int renaming toNat_natCast→zP
open List renaming replicate_zero→zA,length_nil→zC,exists_cons_of_ne_nil→zF,getD_eq_getElem?_getD→zM
open Nat renaming zero_add→zD,eq_of_beq_eq_true→zE,le_of_ble_eq_true→zG
set_option linter.constructorNameAsVariable false
set_option maxRecDepth 40000
namespace Go.Proofs.YtmhapcbjjpadnaaGreat
open Go Go.Sk Go.RowKit
theorem aV:Quiet Tryz.prog 140:=by
 intro args w
 refine callsD_of_wpS Tryz.func140 rfl fun c₀ cs hu=>?_
 have hs:(args++zO (6-args.size) undef).size≥6:=by simp;omega
 show Code.wpS _ _ _ { tmps:=args++zO (6-args.size) undef,defers:= [] } _ _
 generalize args++zO (6-args.size) undef=tm at hs
 apply wpS_seq
 apply wpS_region
 have h2:2<tm.size:=by omega
 have h3:3<tm.size:=by omega
 simp [wpOpsS,go_sem,recoverD,hu,Exit.thenS,h2,h3]
 refine wpS_cond (t:=false) (by simp [Act.eval,h2,h3]) ?_
 simp only [Bool.false_eq_true,if_false]
 refine wpS_of_wp (wp_skip ?_)
 cases c₀
 simp_all [bodyPostS,results,Tryz.f140]
def aWC:List (List V)→Option (List Int)
 | []=>some []
 | [.int .i64 x]::r=>match aWC r with
   |some l=>some (x::l)
   |none=>none
 |_=>none
theorem aMU:∀ {r:List (List V)} {l:List Int},aWC r=some l→r=aJ l:=by
 intro r
 induction r with
 |nil=>intro l h;cases h;rfl
 |cons x r ih=>
  intro l h
  unfold aWC at h
  split at h
  ·rename_i e;cases e
  ·rename_i n r' e
   cases e
   split at h
   ·rename_i l' hl
    cases h
    rw [ih hl];rfl
   ·cases h
  ·cases h
def aL0:V→Option (List Int)
 | .lst e _ rows=>match aWC rows with
   |some []=>some []
   |some (x::l)=>bif Nat.beq e 1 then some (x::l) else none
   |none=>none
 |_=>none
theorem tU {v:V} {l:List Int} (h:aL0 v=some l):tN v (.lst 1 false (aJ l)):=by
 unfold aL0 at h
 split at h
 ·split at h
  ·rename_i hd
   cases h
   rw [aMU hd]
   exact .nils
  ·rename_i hd
   rw [aMU hd]
   cases he:Nat.beq _ 1 with
   |true=>rw [he] at h;cases h;rw [zE he];exact .weak
   |false=>rw [he] at h;cases h
  ·cases h
 ·cases h
def aWD:List (List V)→Option (List Zn)
 | []=>some []
 | [.int .i64 a,.int .i64 b,.int .i64 c,.int .i64 d,.int .i64 e,fr]::r=>match aL0 fr with
   |some l=>match aWD r with
    |some z=>some (⟨a,b,c,d,e,l,false⟩::z)
    |none=>none
   |none=>none
 |_=>none
theorem aWE:∀ {r:List (List V)} {l:List Zn},aWD r=some l→r.length=(aW l).length∧∀(i:Nat) (x y:List V),r[i]? =some x→(aW l)[i]? =some y→kF x y:=by
 intro r
 induction r with
 |nil=>intro l h;cases h;exact⟨rfl,by simp⟩
 |cons x r ih=>
  intro l h
  unfold aWD at h
  split at h
  ·rename_i e;cases e
  ·rename_i a b c d e fr r' eq
   cases eq
   split at h
   ·rename_i fl hf
    split at h
    ·rename_i z hz
     cases h
     obtain⟨h1,h2⟩:=ih hz
     refine⟨by simp [aW] at h1⊢;exact h1,fun i x y hx hy=>?_⟩
     cases i with
     |zero=>
      simp only [aW,List.map_cons,List.getElem?_cons_zero,Option.some.injEq] at hx hy
      subst hx hy
      exact .cons (.refl _) (.cons (.refl _) (.cons (.refl _) (.cons (.refl _) (.cons (.refl _) (.cons (tU hf) .nil)))))
     |succ i=>exact h2 i x y (by simpa using hx) (by simpa [aW] using hy)
    ·cases h
   ·cases h
  ·cases h
def aHZ:V→Option (List Zn)
 | .lst e _ rows=>match aWD rows with
   |some l=>bif Nat.beq e 6||l.isEmpty then some l else none
   |none=>none
 |_=>none
theorem aCD {v:V} {l:List Zn} (h:aHZ v=some l):tN v (.lst 6 false (aW l)):=by
 unfold aHZ at h
 split at h
 ·rename_i e t rows
  split at h
  ·rename_i l' hd
   obtain⟨h1,h2⟩:=aWE hd
   cases he:(Nat.beq e 6||l'.isEmpty) with
   |false=>rw [he] at h;cases h
   |true=>
    rw [he] at h
    cases h
    refine .lst ?_ (by simp) h1 h2
    rw [Bool.or_eq_true] at he
    rcases he with he |he
    ·exact .inl (zE he)
    ·right
     rw [List.isEmpty_iff.1 he] at h1
     exact List.length_eq_zero_iff.1 (by rw [h1];rfl)
  ·cases h
 ·cases h
def aEL:V→Option Ls
 | .agg [a,i,r]=>match aL0 a with
   |some A=>match aL0 i with
    |some I=>match aL0 r with
     |some R=>some ⟨A,I,R⟩
     |none=>none
    |none=>none
   |none=>none
 |_=>none
theorem tV {v:V} {l:Ls} (h:aEL v=some l):tN v (.agg l.c):=by
 unfold aEL at h
 split at h
 ·split at h
  ·rename_i h1
   split at h
   ·rename_i h2
    split at h
    ·rename_i h3
     cases h
     exact .aggs (.cons (tU h1) (.cons (tU h2) (.cons (tU h3) .nil)))
    ·cases h
   ·cases h
  ·cases h
 ·cases h
def smZ(l:List Zn):Bool:=Nat.ble l.length 100000&&l.all fun z=>Nat.ble z.free.length 100000
theorem aM1 {l:List Zn} (h:smZ l=true):kG l:=by
 rw [smZ,zH] at h
 exact⟨zG h.1,fun z hz=>zG (List.all_eq_true.1 h.2 z hz)⟩
def smL(l:Ls):Bool:=Nat.ble l.A.length 10000&&(Nat.ble l.I.length 10000&&Nat.ble l.R.length 10000)
theorem aH5 {l:Ls} (h:smL l=true):jD l:=by
 rw [smL,zH,zH] at h
 exact⟨zG h.1,zG h.2.1,zG h.2.2⟩
def bBI(f:FuncId)(ob0:List Sk.Obj)(args:List V):Option (V×List Sk.Obj):=
 match ob0 with
 |_::_=>none
 | []=>bif Nat.beq f 130 then(match args with
  | [v]=>match aL0 v with
    |some s=>bif Nat.ble s.length 100000 then some (.tup [.lst 6 false (aW (newF s).1),.int .i64 (newF s).2],[]) else none
    |none=>none
  |_=>none) else
   bif Nat.beq f 109 then(match args with
    | [v,.int .i64 p,.bool u]=>match aHZ v with
      |some l=>bif smZ l then some (.tup [.lst 6 false (aW (bX (l.map fH) l p u).1),.int .i64 (bX (l.map fH) l p u).2.1,.int .i64 (bX (l.map fH) l p u).2.2],[]) else none
      |none=>none
    |_=>none) else
   bif Nat.beq f 247 then(match args with
    | [v,.int .i64 p]=>match aHZ v with
      |some l=>bif smZ l then some (.tup [.lst 6 false (aW (eB (l.map fH) l p).1),.int .i64 (eB (l.map fH) l p).2],[]) else none
      |none=>none
    |_=>none) else
   bif Nat.beq f 211 then(match args with
    | [v]=>match aHZ v with
      |some l=>bif smZ l then some (.bool (bH l),[]) else none
      |none=>none
    |_=>none) else
   bif Nat.beq f 231 then(match args with
    | [v]=>match aEL v with
      |some l=>bif smL l then some (.bool (iI l),[]) else none
      |none=>none
    |_=>none) else
   bif Nat.beq f 149 then(match args with
    | [v,.int .i64 p,.bool u]=>match aEL v with
      |some l=>bif smL l then some (.tup [.agg (aB7 l p u).1.c,.int .i64 (aB7 l p u).2],[]) else none
      |none=>none
    |_=>none) else
   bif Nat.beq f 245 then(match args with
    | [v,.int .i64 p]=>match aEL v with
      |some l=>bif smL l then some (.tup [.agg (sE l p).1.c,.int .i64 (sE l p).2],[]) else none
      |none=>none
    |_=>none) else
   bif Nat.beq f 201 then(match args with
    | [v,.int .i64 p]=>match aEL v with
      |some l=>bif smL l then some (.tup [.agg (sG l p).1.c,.int .i64 (sG l p).2],[]) else none
      |none=>none
    |_=>none) else none
theorem fS {α:Type} {b:Bool} {x y:α} (h:(bif b then some x else none)=some y):b=true∧x=y:=by
 cases b with
 |true=>exact⟨rfl,Option.some.inj h⟩
 |false=>cases h
theorem bEN(f:FuncId)(ob0:List Sk.Obj)(args:List V)(v:V)(ob1:List Sk.Obj)(h:bBI f ob0 args=some (v,ob1)):aQ Tryz.prog f ob0 args v ob1:=by
 unfold bBI at h
 split at h
 ·cases h
 cases h1:Nat.beq f 130 with
 |true=>
  rw [h1] at h
  obtain rfl:=zE h1
  dsimp only [cond_true] at h
  split at h
  ·split at h
   ·rename_i hd
    obtain⟨hb,he⟩:=fS h
    cases he
    exact(aZG _ _ (zG hb)).le (.cons (tU hd) .nil) (.refl _) (lO.refl _)
   ·cases h
  ·cases h
 |false=>
 rw [h1] at h
 dsimp only [cond_false] at h
 cases h1:Nat.beq f 109 with
 |true=>
  rw [h1] at h
  obtain rfl:=zE h1
  dsimp only [cond_true] at h
  split at h
  ·split at h
   ·rename_i hd
    obtain⟨hb,he⟩:=fS h
    cases he
    exact(aZE _ _ _ _ (aM1 hb)).le (.cons (aCD hd) (.refl _)) (.refl _) (lO.refl _)
   ·cases h
  ·cases h
 |false=>
 rw [h1] at h
 dsimp only [cond_false] at h
 cases h1:Nat.beq f 247 with
 |true=>
  rw [h1] at h
  obtain rfl:=zE h1
  dsimp only [cond_true] at h
  split at h
  ·split at h
   ·rename_i hd
    obtain⟨hb,he⟩:=fS h
    cases he
    exact(bA3 _ _ _ (aM1 hb)).le (.cons (aCD hd) (.refl _)) (.refl _) (lO.refl _)
   ·cases h
  ·cases h
 |false=>
 rw [h1] at h
 dsimp only [cond_false] at h
 cases h1:Nat.beq f 211 with
 |true=>
  rw [h1] at h
  obtain rfl:=zE h1
  dsimp only [cond_true] at h
  split at h
  ·split at h
   ·rename_i hd
    obtain⟨hb,he⟩:=fS h
    cases he
    exact(aTF _ _ (aM1 hb)).le (.cons (aCD hd) (.refl _)) (.refl _) (lO.refl _)
   ·cases h
  ·cases h
 |false=>
 rw [h1] at h
 dsimp only [cond_false] at h
 cases h1:Nat.beq f 231 with
 |true=>
  rw [h1] at h
  obtain rfl:=zE h1
  dsimp only [cond_true] at h
  split at h
  ·split at h
   ·rename_i hd
    obtain⟨hb,he⟩:=fS h
    cases he
    exact(aZY _ (aH5 hb)).le (.cons (tV hd) (.refl _)) (.refl _) (lO.refl _)
   ·cases h
  ·cases h
 |false=>
 rw [h1] at h
 dsimp only [cond_false] at h
 cases h1:Nat.beq f 149 with
 |true=>
  rw [h1] at h
  obtain rfl:=zE h1
  dsimp only [cond_true] at h
  split at h
  ·split at h
   ·rename_i hd
    obtain⟨hb,he⟩:=fS h
    cases he
    exact(aZI _ _ _ (aH5 hb)).le (.cons (tV hd) (.refl _)) (.refl _) (lO.refl _)
   ·cases h
  ·cases h
 |false=>
 rw [h1] at h
 dsimp only [cond_false] at h
 cases h1:Nat.beq f 245 with
 |true=>
  rw [h1] at h
  obtain rfl:=zE h1
  dsimp only [cond_true] at h
  split at h
  ·split at h
   ·rename_i hd
    obtain⟨hb,he⟩:=fS h
    cases he
    exact(bA2 _ _ (aH5 hb)).le (.cons (tV hd) (.refl _)) (.refl _) (lO.refl _)
   ·cases h
  ·cases h
 |false=>
 rw [h1] at h
 dsimp only [cond_false] at h
 cases h1:Nat.beq f 201 with
 |true=>
  rw [h1] at h
  obtain rfl:=zE h1
  dsimp only [cond_true] at h
  split at h
  ·split at h
   ·rename_i hd
    obtain⟨hb,he⟩:=fS h
    cases he
    exact(aZV _ _ (aH5 hb)).le (.cons (tV hd) (.refl _)) (.refl _) (lO.refl _)
   ·cases h
  ·cases h
 |false=>
 rw [h1] at h
 cases h
end Go.Proofs.YtmhapcbjjpadnaaGreat
set_option maxRecDepth 40000
namespace Go.Proofs.YtmhapcbjjpadnaaGreat
open Go Go.Sk Go.RowKit
theorem aZR(rows:List (List V))(t:Bool)(hl:rows.length*136≤140737488355328):aQ Tryz.prog 185 [] [.lst 15 t rows] (.sl 0 0 rows.length) [.row 15 rows]:=by
 refine aQ.lst_cases (fun hne=>?_) (fun he a cap=>?_)
 ·obtain⟨r,rs,rfl⟩:=zF hne
  refine aF (ob0:= []) [] Tryz.func185 rfl rfl rfl rfl ?_
  refine Wk ?_
  first |refine bZ (by simp only [zA,zC,zD];omega) (by simp only [zA,zC,zD];exact hl) ?_ |refine aE ⟨by simp only [zA,zC,zD];omega,by simp only [zA,zC,zD];exact hl⟩ ?_ |refine⟨by simp only [zA,zC,zD];omega,by simp only [zA,zC,zD];exact hl,?_⟩
  refine Wk ?_
  try subst hk
  refine⟨[some 1],?_,rfl,?_,rfl,?_⟩
  all_goals repeat' (first |exact trivial |rfl |exact .inl rfl |exact .inr rfl |exact id |exact(fun h=>Bool.noConfusion h)|refine And.intro ?_ ?_)
  simp
 ·subst he
  cases a with
  |none=>
   refine aF (ob0:= []) [] Tryz.func185 rfl rfl rfl rfl ?_
   refine Wk ?_
   try subst hk
   exact⟨[none],Cl,rfl,Cl,rfl,Cl⟩
  |some ad=>
   refine aF (ob0:= []) [] Tryz.func185 rfl rfl rfl rfl ?_
   refine Wk ?_
   try subst hk
   exact⟨[some 1],Cl,rfl,Cl,rfl,Cl⟩
theorem aZS(rows:List (List V))(t:Bool)(hl:rows.length*80≤140737488355328):aQ Tryz.prog 186 [] [.lst 9 t rows] (.sl 0 0 rows.length) [.row 9 rows]:=by
 refine aQ.lst_cases (fun hne=>?_) (fun he a cap=>?_)
 ·obtain⟨r,rs,rfl⟩:=zF hne
  refine aF (ob0:= []) [] Tryz.func186 rfl rfl rfl rfl ?_
  refine Wk ?_
  first |refine bZ (by simp only [zA,zC,zD];omega) (by simp only [zA,zC,zD];exact hl) ?_ |refine aE ⟨by simp only [zA,zC,zD];omega,by simp only [zA,zC,zD];exact hl⟩ ?_ |refine⟨by simp only [zA,zC,zD];omega,by simp only [zA,zC,zD];exact hl,?_⟩
  refine Wk ?_
  try subst hk
  refine⟨[some 1],?_,rfl,?_,rfl,?_⟩
  all_goals repeat' (first |exact trivial |rfl |exact .inl rfl |exact .inr rfl |exact id |exact(fun h=>Bool.noConfusion h)|refine And.intro ?_ ?_)
  simp
 ·subst he
  cases a with
  |none=>
   refine aF (ob0:= []) [] Tryz.func186 rfl rfl rfl rfl ?_
   refine Wk ?_
   try subst hk
   exact⟨[none],Cl,rfl,Cl,rfl,Cl⟩
  |some ad=>
   refine aF (ob0:= []) [] Tryz.func186 rfl rfl rfl rfl ?_
   refine Wk ?_
   try subst hk
   exact⟨[some 1],Cl,rfl,Cl,rfl,Cl⟩
theorem aNR(rows:List (List V))(t:Bool)(hl:rows.length*24≤140737488355328):aQ Tryz.prog 188 [] [.lst 3 t rows] (.sl 0 0 rows.length) [.row 3 rows]:=by
 refine aQ.lst_cases (fun hne=>?_) (fun he a cap=>?_)
 ·obtain⟨r,rs,rfl⟩:=zF hne
  refine aF (ob0:= []) [] Tryz.func188 rfl rfl rfl rfl ?_
  refine Wk ?_
  first |refine bZ (by simp only [zA,zC,zD];omega) (by simp only [zA,zC,zD];exact hl) ?_ |refine aE ⟨by simp only [zA,zC,zD];omega,by simp only [zA,zC,zD];exact hl⟩ ?_ |refine⟨by simp only [zA,zC,zD];omega,by simp only [zA,zC,zD];exact hl,?_⟩
  refine Wk ?_
  try subst hk
  refine⟨[some 1],?_,rfl,?_,rfl,?_⟩
  all_goals repeat' (first |exact trivial |rfl |exact .inl rfl |exact .inr rfl |exact id |exact(fun h=>Bool.noConfusion h)|refine And.intro ?_ ?_)
  simp
 ·subst he
  cases a with
  |none=>
   refine aF (ob0:= []) [] Tryz.func188 rfl rfl rfl rfl ?_
   refine Wk ?_
   try subst hk
   exact⟨[none],Cl,rfl,Cl,rfl,Cl⟩
  |some ad=>
   refine aF (ob0:= []) [] Tryz.func188 rfl rfl rfl rfl ?_
   refine Wk ?_
   try subst hk
   exact⟨[some 1],Cl,rfl,Cl,rfl,Cl⟩
theorem aZT(rows:List (List V))(t:Bool)(hl:rows.length*72≤140737488355328):aQ Tryz.prog 189 [] [.lst 3 t rows] (.sl 0 0 rows.length) [.row 3 rows]:=by
 refine aQ.lst_cases (fun hne=>?_) (fun he a cap=>?_)
 ·obtain⟨r,rs,rfl⟩:=zF hne
  refine aF (ob0:= []) [] Tryz.func189 rfl rfl rfl rfl ?_
  refine Wk ?_
  first |refine bZ (by simp only [zA,zC,zD];omega) (by simp only [zA,zC,zD];exact hl) ?_ |refine aE ⟨by simp only [zA,zC,zD];omega,by simp only [zA,zC,zD];exact hl⟩ ?_ |refine⟨by simp only [zA,zC,zD];omega,by simp only [zA,zC,zD];exact hl,?_⟩
  refine Wk ?_
  try subst hk
  refine⟨[some 1],?_,rfl,?_,rfl,?_⟩
  all_goals repeat' (first |exact trivial |rfl |exact .inl rfl |exact .inr rfl |exact id |exact(fun h=>Bool.noConfusion h)|refine And.intro ?_ ?_)
  simp
 ·subst he
  cases a with
  |none=>
   refine aF (ob0:= []) [] Tryz.func189 rfl rfl rfl rfl ?_
   refine Wk ?_
   try subst hk
   exact⟨[none],Cl,rfl,Cl,rfl,Cl⟩
  |some ad=>
   refine aF (ob0:= []) [] Tryz.func189 rfl rfl rfl rfl ?_
   refine Wk ?_
   try subst hk
   exact⟨[some 1],Cl,rfl,Cl,rfl,Cl⟩
theorem aTD(rows:List (List V))(t:Bool)(hl:rows.length*32≤140737488355328):aQ Tryz.prog 190 [] [.lst 5 t rows] (.sl 0 0 rows.length) [.row 5 rows]:=by
 refine aQ.lst_cases (fun hne=>?_) (fun he a cap=>?_)
 ·obtain⟨r,rs,rfl⟩:=zF hne
  refine aF (ob0:= []) [] Tryz.func190 rfl rfl rfl rfl ?_
  refine Wk ?_
  first |refine bZ (by simp only [zA,zC,zD];omega) (by simp only [zA,zC,zD];exact hl) ?_ |refine aE ⟨by simp only [zA,zC,zD];omega,by simp only [zA,zC,zD];exact hl⟩ ?_ |refine⟨by simp only [zA,zC,zD];omega,by simp only [zA,zC,zD];exact hl,?_⟩
  refine Wk ?_
  try subst hk
  refine⟨[some 1],?_,rfl,?_,rfl,?_⟩
  all_goals repeat' (first |exact trivial |rfl |exact .inl rfl |exact .inr rfl |exact id |exact(fun h=>Bool.noConfusion h)|refine And.intro ?_ ?_)
  simp
 ·subst he
  cases a with
  |none=>
   refine aF (ob0:= []) [] Tryz.func190 rfl rfl rfl rfl ?_
   refine Wk ?_
   try subst hk
   exact⟨[none],Cl,rfl,Cl,rfl,Cl⟩
  |some ad=>
   refine aF (ob0:= []) [] Tryz.func190 rfl rfl rfl rfl ?_
   refine Wk ?_
   try subst hk
   exact⟨[some 1],Cl,rfl,Cl,rfl,Cl⟩
theorem aD6(rows:List (List V))(t:Bool)(hl:rows.length*8≤140737488355328):aQ Tryz.prog 107 [] [.lst 1 t rows] (.lst 1 false rows) []:=by
 refine aQ.lst_cases (fun hne=>?_) (fun he a cap=>?_)
 ·obtain⟨r,rs,rfl⟩:=zF hne
  refine aF (ob0:= []) [] Tryz.func107 rfl rfl rfl rfl ?_
  refine Wk ?_
  first |refine bZ (by simp only [zA,zC,zD];omega) (by simp only [zA,zC,zD];exact hl) ?_ |refine aE ⟨by simp only [zA,zC,zD];omega,by simp only [zA,zC,zD];exact hl⟩ ?_ |refine⟨by simp only [zA,zC,zD];omega,by simp only [zA,zC,zD];exact hl,?_⟩
  refine Wk ?_
  refine⟨[],trivial,rfl,trivial,rfl,?_⟩
  try subst hk
  repeat' (first |exact trivial |rfl |exact .inl rfl |exact .inr rfl |exact id |exact(fun h=>Bool.noConfusion h)|refine And.intro ?_ ?_)
  all_goals simp
 ·subst he
  cases a with
  |none=>
   refine aF (ob0:= []) [] Tryz.func107 rfl rfl rfl rfl ?_
   refine Wk ?_
   try subst hk
   exact Lf
   all_goals simp
  |some ad=>
   refine aF (ob0:= []) [] Tryz.func107 rfl rfl rfl rfl ?_
   refine Wk ?_
   refine⟨[],trivial,rfl,trivial,rfl,?_⟩
   try subst hk
   repeat' (first |exact trivial |rfl |exact .inl rfl |exact .inr rfl |exact id |exact(fun h=>Bool.noConfusion h)|refine And.intro ?_ ?_)
   all_goals simp
theorem bCD(rows:List (List V))(t:Bool)(hl:rows.length*136≤140737488355328):aQ Tryz.prog 185 [] [.lst 15 t rows] (.lst 15 false rows) []:=by
 refine aQ.lst_cases (fun hne=>?_) (fun he a cap=>?_)
 ·obtain⟨r,rs,rfl⟩:=zF hne
  refine aF (ob0:= []) [] Tryz.func185 rfl rfl rfl rfl ?_
  refine Wk ?_
  first |refine bZ (by simp only [zA,zC,zD];omega) (by simp only [zA,zC,zD];exact hl) ?_ |refine aE ⟨by simp only [zA,zC,zD];omega,by simp only [zA,zC,zD];exact hl⟩ ?_ |refine⟨by simp only [zA,zC,zD];omega,by simp only [zA,zC,zD];exact hl,?_⟩
  refine Wk ?_
  refine⟨[],trivial,rfl,trivial,rfl,?_⟩
  try subst hk
  repeat' (first |exact trivial |rfl |exact .inl rfl |exact .inr rfl |exact id |exact(fun h=>Bool.noConfusion h)|refine And.intro ?_ ?_)
  all_goals simp
 ·subst he
  cases a with
  |none=>
   refine aF (ob0:= []) [] Tryz.func185 rfl rfl rfl rfl ?_
   refine Wk ?_
   try subst hk
   exact Lf
   all_goals simp
  |some ad=>
   refine aF (ob0:= []) [] Tryz.func185 rfl rfl rfl rfl ?_
   refine Wk ?_
   refine⟨[],trivial,rfl,trivial,rfl,?_⟩
   try subst hk
   repeat' (first |exact trivial |rfl |exact .inl rfl |exact .inr rfl |exact id |exact(fun h=>Bool.noConfusion h)|refine And.intro ?_ ?_)
   all_goals simp
theorem bCE(rows:List (List V))(t:Bool)(hl:rows.length*80≤140737488355328):aQ Tryz.prog 186 [] [.lst 9 t rows] (.lst 9 false rows) []:=by
 refine aQ.lst_cases (fun hne=>?_) (fun he a cap=>?_)
 ·obtain⟨r,rs,rfl⟩:=zF hne
  refine aF (ob0:= []) [] Tryz.func186 rfl rfl rfl rfl ?_
  refine Wk ?_
  first |refine bZ (by simp only [zA,zC,zD];omega) (by simp only [zA,zC,zD];exact hl) ?_ |refine aE ⟨by simp only [zA,zC,zD];omega,by simp only [zA,zC,zD];exact hl⟩ ?_ |refine⟨by simp only [zA,zC,zD];omega,by simp only [zA,zC,zD];exact hl,?_⟩
  refine Wk ?_
  refine⟨[],trivial,rfl,trivial,rfl,?_⟩
  try subst hk
  repeat' (first |exact trivial |rfl |exact .inl rfl |exact .inr rfl |exact id |exact(fun h=>Bool.noConfusion h)|refine And.intro ?_ ?_)
  all_goals simp
 ·subst he
  cases a with
  |none=>
   refine aF (ob0:= []) [] Tryz.func186 rfl rfl rfl rfl ?_
   refine Wk ?_
   try subst hk
   exact Lf
   all_goals simp
  |some ad=>
   refine aF (ob0:= []) [] Tryz.func186 rfl rfl rfl rfl ?_
   refine Wk ?_
   refine⟨[],trivial,rfl,trivial,rfl,?_⟩
   try subst hk
   repeat' (first |exact trivial |rfl |exact .inl rfl |exact .inr rfl |exact id |exact(fun h=>Bool.noConfusion h)|refine And.intro ?_ ?_)
   all_goals simp
theorem bCF(rows:List (List V))(t:Bool)(hl:rows.length*64≤140737488355328):aQ Tryz.prog 187 [] [.lst 6 t rows] (.lst 6 false rows) []:=by
 refine aQ.lst_cases (fun hne=>?_) (fun he a cap=>?_)
 ·obtain⟨r,rs,rfl⟩:=zF hne
  refine aF (ob0:= []) [] Tryz.func187 rfl rfl rfl rfl ?_
  refine Wk ?_
  first |refine bZ (by simp only [zA,zC,zD];omega) (by simp only [zA,zC,zD];exact hl) ?_ |refine aE ⟨by simp only [zA,zC,zD];omega,by simp only [zA,zC,zD];exact hl⟩ ?_ |refine⟨by simp only [zA,zC,zD];omega,by simp only [zA,zC,zD];exact hl,?_⟩
  refine Wk ?_
  refine⟨[],trivial,rfl,trivial,rfl,?_⟩
  try subst hk
  repeat' (first |exact trivial |rfl |exact .inl rfl |exact .inr rfl |exact id |exact(fun h=>Bool.noConfusion h)|refine And.intro ?_ ?_)
  all_goals simp
 ·subst he
  cases a with
  |none=>
   refine aF (ob0:= []) [] Tryz.func187 rfl rfl rfl rfl ?_
   refine Wk ?_
   try subst hk
   exact Lf
   all_goals simp
  |some ad=>
   refine aF (ob0:= []) [] Tryz.func187 rfl rfl rfl rfl ?_
   refine Wk ?_
   refine⟨[],trivial,rfl,trivial,rfl,?_⟩
   try subst hk
   repeat' (first |exact trivial |rfl |exact .inl rfl |exact .inr rfl |exact id |exact(fun h=>Bool.noConfusion h)|refine And.intro ?_ ?_)
   all_goals simp
theorem bCG(rows:List (List V))(t:Bool)(hl:rows.length*24≤140737488355328):aQ Tryz.prog 188 [] [.lst 3 t rows] (.lst 3 false rows) []:=by
 refine aQ.lst_cases (fun hne=>?_) (fun he a cap=>?_)
 ·obtain⟨r,rs,rfl⟩:=zF hne
  refine aF (ob0:= []) [] Tryz.func188 rfl rfl rfl rfl ?_
  refine Wk ?_
  first |refine bZ (by simp only [zA,zC,zD];omega) (by simp only [zA,zC,zD];exact hl) ?_ |refine aE ⟨by simp only [zA,zC,zD];omega,by simp only [zA,zC,zD];exact hl⟩ ?_ |refine⟨by simp only [zA,zC,zD];omega,by simp only [zA,zC,zD];exact hl,?_⟩
  refine Wk ?_
  refine⟨[],trivial,rfl,trivial,rfl,?_⟩
  try subst hk
  repeat' (first |exact trivial |rfl |exact .inl rfl |exact .inr rfl |exact id |exact(fun h=>Bool.noConfusion h)|refine And.intro ?_ ?_)
  all_goals simp
 ·subst he
  cases a with
  |none=>
   refine aF (ob0:= []) [] Tryz.func188 rfl rfl rfl rfl ?_
   refine Wk ?_
   try subst hk
   exact Lf
   all_goals simp
  |some ad=>
   refine aF (ob0:= []) [] Tryz.func188 rfl rfl rfl rfl ?_
   refine Wk ?_
   refine⟨[],trivial,rfl,trivial,rfl,?_⟩
   try subst hk
   repeat' (first |exact trivial |rfl |exact .inl rfl |exact .inr rfl |exact id |exact(fun h=>Bool.noConfusion h)|refine And.intro ?_ ?_)
   all_goals simp
theorem bCH(rows:List (List V))(t:Bool)(hl:rows.length*72≤140737488355328):aQ Tryz.prog 189 [] [.lst 3 t rows] (.lst 3 false rows) []:=by
 refine aQ.lst_cases (fun hne=>?_) (fun he a cap=>?_)
 ·obtain⟨r,rs,rfl⟩:=zF hne
  refine aF (ob0:= []) [] Tryz.func189 rfl rfl rfl rfl ?_
  refine Wk ?_
  first |refine bZ (by simp only [zA,zC,zD];omega) (by simp only [zA,zC,zD];exact hl) ?_ |refine aE ⟨by simp only [zA,zC,zD];omega,by simp only [zA,zC,zD];exact hl⟩ ?_ |refine⟨by simp only [zA,zC,zD];omega,by simp only [zA,zC,zD];exact hl,?_⟩
  refine Wk ?_
  refine⟨[],trivial,rfl,trivial,rfl,?_⟩
  try subst hk
  repeat' (first |exact trivial |rfl |exact .inl rfl |exact .inr rfl |exact id |exact(fun h=>Bool.noConfusion h)|refine And.intro ?_ ?_)
  all_goals simp
 ·subst he
  cases a with
  |none=>
   refine aF (ob0:= []) [] Tryz.func189 rfl rfl rfl rfl ?_
   refine Wk ?_
   try subst hk
   exact Lf
   all_goals simp
  |some ad=>
   refine aF (ob0:= []) [] Tryz.func189 rfl rfl rfl rfl ?_
   refine Wk ?_
   refine⟨[],trivial,rfl,trivial,rfl,?_⟩
   try subst hk
   repeat' (first |exact trivial |rfl |exact .inl rfl |exact .inr rfl |exact id |exact(fun h=>Bool.noConfusion h)|refine And.intro ?_ ?_)
   all_goals simp
theorem bCI(rows:List (List V))(t:Bool)(hl:rows.length*32≤140737488355328):aQ Tryz.prog 190 [] [.lst 5 t rows] (.lst 5 false rows) []:=by
 refine aQ.lst_cases (fun hne=>?_) (fun he a cap=>?_)
 ·obtain⟨r,rs,rfl⟩:=zF hne
  refine aF (ob0:= []) [] Tryz.func190 rfl rfl rfl rfl ?_
  refine Wk ?_
  first |refine bZ (by simp only [zA,zC,zD];omega) (by simp only [zA,zC,zD];exact hl) ?_ |refine aE ⟨by simp only [zA,zC,zD];omega,by simp only [zA,zC,zD];exact hl⟩ ?_ |refine⟨by simp only [zA,zC,zD];omega,by simp only [zA,zC,zD];exact hl,?_⟩
  refine Wk ?_
  refine⟨[],trivial,rfl,trivial,rfl,?_⟩
  try subst hk
  repeat' (first |exact trivial |rfl |exact .inl rfl |exact .inr rfl |exact id |exact(fun h=>Bool.noConfusion h)|refine And.intro ?_ ?_)
  all_goals simp
 ·subst he
  cases a with
  |none=>
   refine aF (ob0:= []) [] Tryz.func190 rfl rfl rfl rfl ?_
   refine Wk ?_
   try subst hk
   exact Lf
   all_goals simp
  |some ad=>
   refine aF (ob0:= []) [] Tryz.func190 rfl rfl rfl rfl ?_
   refine Wk ?_
   refine⟨[],trivial,rfl,trivial,rfl,?_⟩
   try subst hk
   repeat' (first |exact trivial |rfl |exact .inl rfl |exact .inr rfl |exact id |exact(fun h=>Bool.noConfusion h)|refine And.intro ?_ ?_)
   all_goals simp
end Go.Proofs.YtmhapcbjjpadnaaGreat
set_option maxRecDepth 40000
namespace Go.Proofs.YtmhapcbjjpadnaaGreat
open Go Go.Sk Go.RowKit Go.Shelf
def kX:Go.Shelf.Ren:=⟨fun |105=>158 |212=>254 |99=>255 |165=>256 |166=>257 |170=>258 |169=>259 |263=>321 |264=>322 |206=>323 |240=>324 |241=>325 |276=>351 |277=>352 |n=>n,fun |9=>9 |3=>3 |4=>4 |20=>20 |0=>0 |46=>264 |109=>265 |5=>5 |72=>270 |76=>273 |51=>315 |146=>316 |53=>114 |148=>318 |70=>268 |37=>106 |75=>272 |127=>320 |164=>333 |80=>275 |n=>n,fun |n=>n⟩
theorem kW:Go.Proofs.Lays.n105 Tryz.prog kX where
 mixed:=by kernel_rfl
 f99:=Tryz.func255.trans (congrArg some (by kernel_rfl))
 f105:=Tryz.func158.trans (congrArg some (by kernel_rfl))
 f165:=Tryz.func256.trans (congrArg some (by kernel_rfl))
 f166:=Tryz.func257.trans (congrArg some (by kernel_rfl))
 f169:=Tryz.func259.trans (congrArg some (by kernel_rfl))
 f170:=Tryz.func258.trans (congrArg some (by kernel_rfl))
 f206:=Tryz.func323.trans (congrArg some (by kernel_rfl))
 f212:=Tryz.func254.trans (congrArg some (by kernel_rfl))
 f240:=Tryz.func324.trans (congrArg some (by kernel_rfl))
 f241:=Tryz.func325.trans (congrArg some (by kernel_rfl))
 f263:=Tryz.func321.trans (congrArg some (by kernel_rfl))
 f264:=Tryz.func322.trans (congrArg some (by kernel_rfl))
 f276:=Tryz.func351.trans (congrArg some (by kernel_rfl))
 f277:=Tryz.func352.trans (congrArg some (by kernel_rfl))
 t0:=Tryz.underlying0
 a0:=Tryz.isAgg0
 z0:=Tryz.sizeOf0
 v0:=Tryz.zeroValue0
 t3:=Tryz.underlying3
 a3:=Tryz.isAgg3
 z3:=Tryz.sizeOf3
 v3:=Tryz.zeroValue3
 t4:=Tryz.underlying4
 a4:=Tryz.isAgg4
 z4:=Tryz.sizeOf4
 v4:=Tryz.zeroValue4
 t5:=Tryz.underlying5
 a5:=Tryz.isAgg5
 z5:=Tryz.sizeOf5
 v5:=Tryz.zeroValue5
 t9:=Tryz.underlying9
 a9:=Tryz.isAgg9
 z9:=Tryz.sizeOf9
 v9:=Tryz.zeroValue9
 t20:=Tryz.underlying20
 a20:=Tryz.isAgg20
 z20:=Tryz.sizeOf20
 v20:=Tryz.zeroValue20
 t37:=Tryz.underlying106
 a37:=Tryz.isAgg106
 z37:=Tryz.sizeOf106
 v37:=Tryz.zeroValue106
 t46:=Tryz.underlying264
 a46:=Tryz.isAgg264
 z46:=Tryz.sizeOf264
 v46:=Tryz.zeroValue264
 t51:=Tryz.underlying315
 a51:=Tryz.isAgg315
 z51:=Tryz.sizeOf315
 v51:=Tryz.zeroValue315
 t53:=Tryz.underlying114
 a53:=Tryz.isAgg114
 z53:=Tryz.sizeOf114
 v53:=Tryz.zeroValue114
 t70:=Tryz.underlying268
 a70:=Tryz.isAgg268
 z70:=Tryz.sizeOf268
 v70:=Tryz.zeroValue268
 t72:=Tryz.underlying270
 a72:=Tryz.isAgg270
 z72:=Tryz.sizeOf270
 v72:=Tryz.zeroValue270
 t75:=Tryz.underlying272
 a75:=Tryz.isAgg272
 z75:=Tryz.sizeOf272
 v75:=Tryz.zeroValue272
 t76:=Tryz.underlying273
 a76:=Tryz.isAgg273
 z76:=Tryz.sizeOf273
 v76:=Tryz.zeroValue273
 t109:=Tryz.underlying265
 a109:=Tryz.isAgg265
 z109:=Tryz.sizeOf265
 v109:=Tryz.zeroValue265
 t127:=Tryz.underlying320
 a127:=Tryz.isAgg320
 z127:=Tryz.sizeOf320
 v127:=Tryz.zeroValue320
 t146:=Tryz.underlying316
 a146:=Tryz.isAgg316
 z146:=Tryz.sizeOf316
 v146:=Tryz.zeroValue316
 t148:=Tryz.underlying318
 a148:=Tryz.isAgg318
 z148:=Tryz.sizeOf318
 v148:=Tryz.zeroValue318
 t164:=Tryz.underlying333
 a164:=Tryz.isAgg333
 z164:=Tryz.sizeOf333
 v164:=Tryz.zeroValue333
theorem aI7:Builder.Extra Tryz.prog kX where
 sizeBuilder:=by kernel_rfl
 liesBuilder:=by kernel_rfl
 t5:=kW.t5
 a5:=kW.a5
 z5:=kW.z5
 v5:=kW.v5
 infoByte:=by kernel_rfl
 cellsByte:=by kernel_rfl
 sizeByte:=by kernel_rfl
 neB5:=by decide
theorem aWK:kX.f 105=158:=by kernel_rfl
def aY1(s:ByteArray)(c:Nat):ByteArray:=⟨(Lib.repeatL s.data.toList c).toArray⟩
theorem aT5(s:ByteArray)(c:Nat)(hc:c≤9223372036854775807)(hlen:s.size*c≤140737488355328):aQ Tryz.prog 158 [] [.str s,.int .i64 (c:Int)] (.str (aY1 s c)) []:=by
 intro U σ w cargs hR hn hargs
 obtain⟨c0,c1,rfl⟩:∃a b,cargs= #[a,b]:=by
  rcases cargs with ⟨L⟩
  match L,hn with
  | [a,b],_=>exact⟨a,b,rfl⟩
 have a0:=hargs 0 _ c0 rfl rfl
 have a1:=hargs 1 _ c1 rfl rfl
 cases a0
 cases a1
 have key:=Any.strings_Repeat kW aI7 s c w hc hlen
 rw [aWK] at key
 refine key.mono ?_
 rintro e w' ⟨rfl,hb⟩
 have hk:cM (fun _=>False) w w':=⟨hb.os,hb.tape,hb.output,hb.size,fun b h _=>hb.block b h⟩
 exact⟨_,σ,rfl,hR.of_keep hk,.str _,bL.of_keep hk⟩
end Go.Proofs.YtmhapcbjjpadnaaGreat
set_option maxRecDepth 40000
namespace Go.Proofs.YtmhapcbjjpadnaaGreat
open Go Go.Sk Go.RowKit
def bBA(f:Nat):Nat:=bif Nat.beq f 107 then 1 else bif Nat.beq f 185 then 15 else bif Nat.beq f 186 then 9 else bif Nat.beq f 187 then 6 else bif Nat.beq f 188 then 3 else bif Nat.beq f 189 then 3 else bif Nat.beq f 190 then 5 else 0
def bB9(own:Bool)(es:Nat)(args:List V):Option (V×List Sk.Obj):=match args with
 | [.lst _ _ []]=>match own with
   |true=>some (.sl 0 0 0,[.row es []])
   |false=>some (.lst es false [],[])
 | [.lst e _ (x::xs)]=>match own with
   |true=>bif Nat.beq e es&&Nat.ble (x::xs).length 100000 then some (.sl 0 0 (x::xs).length,[.row es (x::xs)]) else none
   |false=>bif Nat.beq e es&&Nat.ble (x::xs).length 100000 then some (.lst es false (x::xs),[]) else none
 |_=>none
theorem oJ {f es:Nat} {own:Bool} (g:∀(rows:List (List V)) (t:Bool),rows.length≤100000→aQ Tryz.prog f [] [.lst es t rows] (.lst es false rows) [])(h:∀(rows:List (List V)) (t:Bool),rows.length≤100000→aQ Tryz.prog f [] [.lst es t rows] (.sl 0 0 rows.length) [.row es rows]) {args:List V} {v:V} {ob1:List Sk.Obj} (hc:bB9 own es args=some (v,ob1)):aQ Tryz.prog f [] args v ob1:=by
 unfold bB9 at hc
 split at hc
 ·split at hc
  ·cases hc
   exact(h [] false (by simp)).le (.cons .nils .nil) (.refl _) (lO.refl _)
  ·cases hc
   exact(g [] false (by simp)).le (.cons .nils .nil) (.refl _) (lO.refl _)
 ·split at hc
  ·obtain⟨hb,he⟩:=fS hc
   rw [zH] at hb
   cases he
   rw [zE hb.1]
   exact h _ _ (zG hb.2)
  ·obtain⟨hb,he⟩:=fS hc
   rw [zH] at hb
   cases he
   rw [zE hb.1]
   exact g _ _ (zG hb.2)
 ·cases hc
def bBJ(own:Bool)(f:FuncId)(ob0:List Sk.Obj)(args:List V):Option (V×List Sk.Obj):=
 match ob0 with
 |_::_=>none
 | []=>match bBA f with
   |0=>bBI f [] args
   |es+1=>bB9 own (es+1) args
theorem bEO(own:Bool)(f:FuncId)(ob0:List Sk.Obj)(args:List V)(v:V)(ob1:List Sk.Obj)(h:bBJ own f ob0 args=some (v,ob1)):aQ Tryz.prog f ob0 args v ob1:=by
 unfold bBJ at h
 split at h
 ·cases h
 ·split at h
  ·exact bEN _ _ _ _ _ h
  ·rename_i es he
   unfold bBA at he
   cases h1:Nat.beq f 107 with
   |true=>
    obtain rfl:=zE h1
    have he2:1=es+1:=by rw [h1] at he;exact he
    rw [←he2] at h
    exact oJ (fun rows t hl=>aD6 rows t (by omega)) (fun rows t hl=>sM rows t (by omega)) h
   |false=>
   rw [h1] at he
   dsimp only [cond_false] at he
   cases h1:Nat.beq f 185 with
   |true=>
    obtain rfl:=zE h1
    have he2:15=es+1:=by rw [h1] at he;exact he
    rw [←he2] at h
    exact oJ (fun rows t hl=>bCD rows t (by omega)) (fun rows t hl=>aZR rows t (by omega)) h
   |false=>
   rw [h1] at he
   dsimp only [cond_false] at he
   cases h1:Nat.beq f 186 with
   |true=>
    obtain rfl:=zE h1
    have he2:9=es+1:=by rw [h1] at he;exact he
    rw [←he2] at h
    exact oJ (fun rows t hl=>bCE rows t (by omega)) (fun rows t hl=>aZS rows t (by omega)) h
   |false=>
   rw [h1] at he
   dsimp only [cond_false] at he
   cases h1:Nat.beq f 187 with
   |true=>
    obtain rfl:=zE h1
    have he2:6=es+1:=by rw [h1] at he;exact he
    rw [←he2] at h
    exact oJ (fun rows t hl=>bCF rows t (by omega)) (fun rows t hl=>aTC rows t (by omega)) h
   |false=>
   rw [h1] at he
   dsimp only [cond_false] at he
   cases h1:Nat.beq f 188 with
   |true=>
    obtain rfl:=zE h1
    have he2:3=es+1:=by rw [h1] at he;exact he
    rw [←he2] at h
    exact oJ (fun rows t hl=>bCG rows t (by omega)) (fun rows t hl=>aNR rows t (by omega)) h
   |false=>
   rw [h1] at he
   dsimp only [cond_false] at he
   cases h1:Nat.beq f 189 with
   |true=>
    obtain rfl:=zE h1
    have he2:3=es+1:=by rw [h1] at he;exact he
    rw [←he2] at h
    exact oJ (fun rows t hl=>bCH rows t (by omega)) (fun rows t hl=>aZT rows t (by omega)) h
   |false=>
   rw [h1] at he
   dsimp only [cond_false] at he
   cases h1:Nat.beq f 190 with
   |true=>
    obtain rfl:=zE h1
    have he2:5=es+1:=by rw [h1] at he;exact he
    rw [←he2] at h
    exact oJ (fun rows t hl=>bCI rows t (by omega)) (fun rows t hl=>aTD rows t (by omega)) h
   |false=>
   rw [h1] at he
   dsimp only [cond_false] at he
   cases he
def bBK(own:Bool)(f:FuncId)(ob0:List Sk.Obj)(args:List V):Option (V×List Sk.Obj):=
 match Nat.beq f 158 with
 |false=>bBJ own f ob0 args
 |true=>match ob0,args with
  | [],[.str s,.int .i64 (.ofNat c)]=>bif Nat.ble c 9223372036854775807&&Nat.ble (s.size*c) 140737488355328 then some (.str (aY1 s c),[]) else none
  |_,_=>none
theorem bEP(own:Bool)(f:FuncId)(ob0:List Sk.Obj)(args:List V)(v:V)(ob1:List Sk.Obj)(h:bBK own f ob0 args=some (v,ob1)):aQ Tryz.prog f ob0 args v ob1:=by
 unfold bBK at h
 split at h
 ·exact bEO _ _ _ _ _ _ h
 ·rename_i hf
  obtain rfl:=zE hf
  split at h
  ·obtain⟨hb,he⟩:=fS h
   rw [zH] at hb
   cases he
   exact aT5 _ _ (zG hb.1) (zG hb.2)
  ·cases h
end Go.Proofs.YtmhapcbjjpadnaaGreat
set_option maxRecDepth 40000
namespace Go.Proofs.YtmhapcbjjpadnaaGreat
open Go Go.Sk Go.RowKit
theorem aY5 {P:Program} {N:Nat} {live:List Nat} {ks:List Ct} {c:Code} {rc r2:RC} (h:dD P N c=some rc)(h2:(match lC rc live with |some r=>aEK ks r |none=>none)=some r2):aGX P N live ks c=some r2:=by
 unfold aGX
 rw [h]
 exact h2
theorem bG9:aQ Tryz.prog 342 [] [.int .i64 128] (.int .i64 7) []:=by
 refine aF (ob0:= []) [] Tryz.func342 rfl rfl rfl rfl ?_
 refine Wk ?_
 try subst hk
 exact Lf
def aDR(s:Int):Bool:=decide (0≤s)&&decide (s<7)
theorem bFW(s:Int):aQ Tryz.prog 297 [] [.int .i64 s] (.bool (aDR s)) []:=by
 refine aF (ob0:= []) [] Tryz.func297 rfl rfl rfl rfl ?_
 rw [show aDR s=bif decide (0≤s) then decide (s<7) else false by unfold aDR;cases decide (0≤s)<;> rfl]
 refine dF bG9 ?_
 try subst hk
 exact Lf
def aQL(s i:Int):Int:=bif (!aDR s||decide (i<0))||decide (2≤i) then -1 else IntKind.i64.wrap (IntKind.i64.wrap (s*18)+i)
theorem bFH(s i:Int):aQ Tryz.prog 221 [] [.int .i64 s,.int .i64 i] (.int .i64 (aQL s i)) []:=by
 refine aF (ob0:= []) [] Tryz.func221 rfl rfl rfl rfl ?_
 generalize hk:aQL s i=q
 refine dF (bFW s) ?_
 refine aI (fun h1=>?_) (fun h1=>?_)<;> try simp only [zJ,zI,zL,zK,zN] at h1
 ·rw [aQL,h1,cond_true] at hk
  subst hk
  refine Wk ?_
  try subst hk
  exact Lf
 rw [aQL,h1,cond_false] at hk
 subst hk
 refine Wk ?_
 try subst hk
 exact Lf
theorem aJM(s:Int):decide (aQL s 0<0)= !aDR s:=by
 unfold aQL aDR
 by_cases h1:0≤s <;> by_cases h2:s<7
 ·have :IntKind.i64.wrap (s*18)=s*18:=aY (by omega) (by omega)
  simp [h1,h2,this,aY (n:=s*18) (by omega) (by omega)];omega
 all_goals simp [h1,h2]
def rA(L:List (Int×Int)):List (List V):=L.map fun p=> [.int .i64 p.1,.int .i64 p.2]
theorem gI(L:List (Int×Int)):(rA L).length=L.length:=by simp [rA]
theorem aDM(L:List (Int×Int))(k:Nat)(h:k<L.length):(rA L).getD ((k:Int)).toNat []=[.int .i64 (L.getD k (0,0)).1,.int .i64 (L.getD k (0,0)).2]:=by
 rw [zP]
 simp [rA,zM,h]
def aVV(p:Int×Int):Bool:=(decide (p.1<0)||decide (4≤p.1))|| !aDR p.2
def aP3(l:List (Int×Int))(j:Nat):Bool:=aVV (l.getD j (0,0))||decide (l.getD j (0,0)∈l.take j)
def aBB(l:List (Int×Int)):Bool:=bO (aP3 l) l.length&&(decide (1≤(l.length:Int))&&decide ((l.length:Int)≤8))
def bGW:RC:=
 (.seq
 (.reg [⟨(some 2),none,(.mv (.c (.bool false)))⟩] [])
 (.seq
 (.reg [⟨(some 6),none,(.mkmap 2)⟩,
   ⟨(some 3),none,(.mv (.t 6))⟩] [6])
 (.seq
 (.seq
 (.reg [⟨(some 7),none,(.mv (.t 0))⟩,
   ⟨(some 8),none,(.len (.t 7))⟩,
   ⟨(some 9),none,(.mv (.c (.int .i64 0)))⟩] [])
 (.block 0
  (.loop
   (.seq
   (.reg [⟨(some 10),none,(.bin .lss (.t 9) (.t 8))⟩] [])
   (.seq
   (.cond (.t 10)
    .skip
    (.exit 0))
   (.seq
   (.block 1
    (.seq
    (.reg [⟨(some 11),none,(.iaddr 2 (.t 7) (.t 9))⟩,
      ⟨(some 12),none,(.ld true 2 (.t 11))⟩,
      ⟨(some 5),none,(.alloc [(.int .i64 0),(.int .i64 0)])⟩,
      ⟨none,none,(.st 2 (.t 5) (.t 12))⟩] [11,12])
    (.seq
    (.seq
    (.reg [⟨(some 13),none,(.faddr 0 (.t 5))⟩,
      ⟨(some 14),none,(.ld false 1 (.t 13))⟩,
      ⟨(some 15),none,(.bin .lss (.t 14) (.c (.int .i64 0)))⟩,
      ⟨(some 16),none,(.mv (.t 15))⟩,
      ⟨(some 17),(some (16,false)),(.faddr 0 (.t 5))⟩,
      ⟨(some 18),(some (16,false)),(.ld false 1 (.t 17))⟩,
      ⟨(some 19),(some (16,false)),(.bin .geq (.t 18) (.c (.int .i64 4)))⟩,
      ⟨(some 20),none,(.pick (.t 16) (.c (.bool true)) (.t 19))⟩,
      ⟨(some 21),none,(.mv (.t 20))⟩,
      ⟨(some 22),(some (21,false)),(.faddr 1 (.t 5))⟩,
      ⟨(some 23),(some (21,false)),(.ld false 1 (.t 22))⟩,
      ⟨(some 24),(some (21,false)),(.call 221 [(.t 23),(.c (.int .i64 0))])⟩,
      ⟨(some 25),(some (21,false)),(.bin .lss (.t 24) (.c (.int .i64 0)))⟩,
      ⟨(some 26),none,(.pick (.t 21) (.c (.bool true)) (.t 25))⟩,
      ⟨(some 27),none,(.mv (.t 26))⟩,
      ⟨(some 28),(some (27,false)),(.mv (.t 3))⟩,
      ⟨(some 29),(some (27,false)),(.ld true 2 (.t 5))⟩,
      ⟨(some 30),(some (27,false)),(.mgetp (.bool false) false (.t 28) (.t 29))⟩,
      ⟨(some 31),none,(.pick (.t 27) (.c (.bool true)) (.t 30))⟩] [13,14,15,16,17,18,19,20,21,22,23,24,25,26,27,28,29,30])
    (.cond (.t 31)
     (.seq
     (.reg [⟨(some 2),none,(.mv (.c (.bool false)))⟩] [])
     .ret)
     .skip))
    (.reg [⟨(some 32),none,(.mv (.t 3))⟩,
      ⟨(some 33),none,(.ld true 2 (.t 5))⟩,
      ⟨none,none,(.mputp (.t 32) (.t 33) (.c (.bool true)))⟩] [32,33]))))
   (.reg [⟨(some 34),none,(.bin .add (.t 9) (.c (.int .i64 1)))⟩,
     ⟨(some 9),none,(.mv (.t 34))⟩] [34])))))))
 (.seq
 (.reg [⟨(some 35),none,(.mv (.t 0))⟩,
   ⟨(some 36),none,(.len (.t 35))⟩,
   ⟨(some 37),none,(.bin .geq (.t 36) (.c (.int .i64 1)))⟩,
   ⟨(some 38),none,(.mv (.t 37))⟩,
   ⟨(some 39),(some (38,true)),(.mv (.t 0))⟩,
   ⟨(some 40),(some (38,true)),(.len (.t 39))⟩,
   ⟨(some 41),(some (38,true)),(.bin .leq (.t 40) (.c (.int .i64 8)))⟩,
   ⟨(some 42),none,(.pick (.t 38) (.t 41) (.c (.bool false)))⟩,
   ⟨(some 2),none,(.mv (.t 42))⟩] [35,36,37,38,39,40,41,42])
 .ret))))
theorem bCZ:dD Go.Proofs.Tryz.prog Go.Proofs.Tryz.f128.ntmps ((Go.Proofs.Tryz.f128.body).getD .skip)=some (strip bGW):=by kernel_rfl
set_option maxRecDepth 20000 in
set_option maxHeartbeats 1000000 in
theorem bF3(l:List (Int×Int))(t:Bool)(hl:l.length≤100000):aQ Tryz.prog 128 [] [.lst 2 t (rA l)] (.bool (aBB l)) []:=by
 refine aF [] Tryz.func128 rfl rfl (aY5 bCZ rfl) rfl ?_
 generalize hk:aBB l=q
 rw [aBB] at hk
 refine Wk ?_
 rw [gI]
 refine⟨Nat×List (List Int×V),fun p=>(p.1≤l.length∧bO (aP3 l) p.1=true)∧∀x,dZ p.2 [x.1,x.2] (.bool false)=.bool (decide (x∈l.take p.1)),fun p=>⟨[(0,⟨[],true,.lst 2 t (rA l)⟩),(3,⟨[],true,.mp 0⟩),(7,⟨[],true,.lst 2 t (rA l)⟩),(8,⟨[],true,.int .i64 (l.length:Int)⟩),(9,⟨[],true,.int .i64 (p.1:Int)⟩)],
  [(0,.mp (2,p.2))],1⟩,fun p=>l.length-p.1,⟨(0,[]),⟨⟨by simp,rfl⟩,fun f=>by simp [dZ]⟩,?_⟩,fun p hp=>?_⟩
 ·exact Vw [some 0]
 obtain⟨i,M⟩:=p
 obtain⟨⟨hp1,hp2⟩,hM⟩:=hp
 dsimp only at hp1 hp2 hM⊢
 refine Wk ?_
 refine aI (fun b1=>?_) (fun b1=>?_)<;> try simp only [zJ,zI,zL,zK,zN] at b1
 ·have b1:i<l.length:=by simp at b1;omega
  have hi1:IntKind.i64.wrap ((i:Int)+1)=((i+1:Nat):Int):=by rw [aY (by omega) (by omega)];omega
  refine Wk ?_
  first |refine aE (⟨rfl,by omega,by rw [gI];omega⟩) ?_ |refine aM (fun _=>⟨rfl,by omega,by rw [gI];omega⟩) ?_ |refine⟨fun _=>⟨rfl,by omega,by rw [gI];omega⟩,?_⟩
  rw [aDM l i b1]
  have hbd:aP3 l i=(aVV (l.getD i (0,0))||decide (l.getD i (0,0)∈l.take i)):=rfl
  have hmem:∀y,y∈l.take (i+1)↔y∈l.take i∨y=l.getD i (0,0):=fun y=>by
   rw [List.take_succ_eq_append_getElem b1,List.mem_append,List.mem_singleton]
   simp [zM,b1]
  generalize l.getD i (0,0)=f at hbd hmem⊢
  obtain⟨d,s⟩:=f
  refine dF (bFH s 0) ?_
  rw [hM (d,s)]
  refine Wk ?_
  refine aI (fun b2=>?_) (fun b2=>?_)<;> try simp only [zJ,zI,zL,zK,zN] at b2
  ·have b2:aP3 l i=true:=by rw [hbd,←b2,aVV,aJM]
   rw [iC b1 b2] at hk
   have hk:q=false:=by rw [←hk];rfl
   subst hk
   refine Wk ?_
   try subst hk
   exact Lf
  have b2:aP3 l i=false:=by rw [hbd,←b2,aVV,aJM]
  refine Wk ?_
  rw [hi1]
  refine⟨(i+1,fW M [d,s] (.bool true)),⟨⟨by show i+1≤_;omega,by show bO (aP3 l) (i+1)=true;simp only [bO,hp2,b2];rfl⟩,fun y=>?_⟩,?_,by show l.length- (i+1)<l.length-i;omega⟩
  ·show dZ (fW M [d,s] (.bool true)) [y.1,y.2] (.bool false)=.bool (decide (y∈l.take (i+1)))
   rw [vR,hM y]
   by_cases e:y=(d,s)
   ·rw [if_pos (by rw [e]),show decide (y∈l.take (i+1))=true by rw [decide_eq_true_eq,hmem];exact .inr e]
   ·rw [if_neg (fun h=>e (by simp only [List.cons.injEq,and_true] at h;exact Prod.ext h.1 h.2))]
    congr 1
    exact decide_eq_decide.2 (by rw [hmem];exact⟨.inl,fun h=>h.resolve_right e⟩)
  exact Vw [some 0]
 have b1:i=l.length:=by simp at b1;omega
 subst b1
 rw [hp2,Bool.true_and] at hk
 have hk:(bif decide (1≤(l.length:Int)) then decide ((l.length:Int)≤8) else false)=q:=by rw [←hk];cases decide (1≤(l.length:Int))<;> rfl
 rw [←gI] at hk
 subst hk
 refine Wk ?_
 try subst hk
 exact Lf
end Go.Proofs.YtmhapcbjjpadnaaGreat
set_option maxRecDepth 40000
namespace Go.Proofs.YtmhapcbjjpadnaaGreat
open Go Go.Sk Go.RowKit
structure Gr where
 lim:Int
 pro:Int
 chg:Int
deriving DecidableEq
def Gr.c(g:Gr):List V:= [.int .i64 g.lim,.int .i64 g.pro,.int .i64 g.chg]
def g0:Gr:=⟨0,0,0⟩
def bP(L:List Gr):List (List V):=L.map Gr.c
theorem aO(L:List Gr):(bP L).length=L.length:=by simp [bP]
theorem lG(L:List Gr)(k:Nat)(h:k<L.length):(bP L).getD ((k:Int)).toNat []=(L.getD k g0).c:=by
 rw [zP]
 simp [bP,zM,h]
def aVU(g:Gr):Bool:=((((decide (g.lim<1)||decide (64<g.lim))||decide (g.pro<0))||decide (g.lim<g.pro))||decide (g.chg<0))||decide (64<g.chg)
def aAE(l:List Gr)(j:Nat):Bool:=aVU (l.getD j g0)
def vC(l:List Gr):Bool:=bO (aAE l) l.length&&(decide (1≤(l.length:Int))&&decide ((l.length:Int)≤4))
set_option maxHeartbeats 1000000 in
theorem aZF(l:List Gr)(t:Bool)(hl:l.length≤100000):aQ Tryz.prog 129 [] [.lst 3 t (bP l)] (.bool (vC l)) []:=by
 refine aF (ob0:= []) [] Tryz.func129 rfl rfl rfl rfl ?_
 generalize hk:vC l=q
 rw [vC] at hk
 refine Wk ?_
 rw [aO]
 refine⟨Nat,fun i=>i≤l.length∧bO (aAE l) i=true,fun i=>⟨[(0,⟨[],true,.lst 3 t (bP l)⟩),(5,⟨[],true,.lst 3 t (bP l)⟩),(6,⟨[],true,.int .i64 (l.length:Int)⟩),(7,⟨[],true,.int .i64 (i:Int)⟩)],[],0⟩,fun i=>l.length-i,⟨0,⟨by simp,rfl⟩,?_⟩,fun i hp=>?_⟩
 ·exact Vw []
 obtain⟨hp1,hp2⟩:=hp
 dsimp only at hp1 hp2⊢
 refine Wk ?_
 refine aI (fun b1=>?_) (fun b1=>?_)<;> try simp only [zJ,zI,zL,zK,zN] at b1
 ·have b1:i<l.length:=by simp [aO] at b1;omega
  have hi1:IntKind.i64.wrap ((i:Int)+1)=((i+1:Nat):Int):=by rw [aY (by omega) (by omega)];omega
  refine Wk ?_
  first |refine aE (⟨rfl,by omega,by rw [aO];omega⟩) ?_ |refine aM (fun _=>⟨rfl,by omega,by rw [aO];omega⟩) ?_ |refine⟨fun _=>⟨rfl,by omega,by rw [aO];omega⟩,?_⟩
  rw [lG l i b1]
  have hbd:aAE l i=aVU (l.getD i g0):=rfl
  generalize l.getD i g0=g at hbd
  refine Wk ?_
  refine aI (fun b2=>?_) (fun b2=>?_)<;> try simp only [zJ,zI,zL,zK,zN] at b2
  ·have b2:aAE l i=true:=by rw [hbd,←b2];rfl
   rw [iC b1 b2] at hk
   have hk:q=false:=by rw [←hk];rfl
   subst hk
   refine Wk ?_
   try subst hk
   exact Lf
  have b2:aAE l i=false:=by rw [hbd,←b2];rfl
  refine Wk ?_
  rw [hi1]
  refine⟨i+1,⟨by show i+1≤_;omega,by show bO (aAE l) (i+1)=true;simp only [bO,hp2,b2];rfl⟩,?_,by show l.length- (i+1)<l.length-i;omega⟩
  exact Vw []
 have b1:i=l.length:=by simp [aO] at b1;omega
 subst b1
 rw [hp2,Bool.true_and] at hk
 have hk:(bif decide (1≤(l.length:Int)) then decide ((l.length:Int)≤4) else false)=q:=by rw [←hk];cases decide (1≤(l.length:Int))<;> rfl
 rw [←aO] at hk
 subst hk
 refine Wk ?_
 try subst hk
 exact Lf
end Go.Proofs.YtmhapcbjjpadnaaGreat
set_option maxRecDepth 40000
namespace Go.Proofs.YtmhapcbjjpadnaaGreat
open Go Go.Sk Go.RowKit
def bEU(f:Nat):Bool:=gE f [82,313,147,156,153,97,267,326,167,168,172,170,316,349]
def mdA(caller slot callee:Nat):Nat:=
 bif bEU callee||(Nat.beq callee 314&& !Nat.beq caller 314) then 1 else
 bif Nat.beq callee 272 then 3 else
 bif Nat.beq caller 82 then(bif Nat.ble slot 28 then 1 else 0) else
 match bBA callee with
 |0=>0
 |_=>1
noncomputable def E1:En Tryz.prog where
 ext:=bBK
 hext:=bEP
 qg:=some 140
 hq:=fun g e=>by obtain rfl:=Option.some.inj e;exact aV
 md:=mdA
 lf:=200
 fz:=fun f=>bif Nat.beq f 82 then [3,4,7] else []
def i0(n:Int):V:=.int .i64 n
def z9:List V:= [i0 (-1),i0 0,.str ⟨#[]⟩,i0 0,i0 0,i0 0,i0 0,i0 0,i0 0]
def k0:V:=.agg [.lst 15 false [[i0 0,i0 0,i0 0,.lst 0 true [],i0 0,i0 0,i0 0,i0 0,i0 0,i0 0,i0 0,i0 0,i0 0,i0 0,i0 0]],.lst 9 false [z9,z9,z9,z9,z9,z9,z9,z9],.lst 6 false [[i0 1,i0 8,i0 1,i0 2,i0 4,.lst 1 false [[i0 1],[i0 2],[i0 3],[i0 4],[i0 5],[i0 6],[i0 7],[i0 8]]]],.lst 3 false [[i0 8,i0 0,i0 0]],.lst 3 false [[.lst 0 true [],.lst 0 true [],.lst 0 true []]],.lst 1 false [[i0 0]],.lst 0 true []]
def k1:V:=.agg [.lst 15 false [[i0 0,i0 0,i0 0,.lst 0 true [],i0 1,i0 0,i0 0,i0 0,i0 0,i0 0,i0 0,i0 0,i0 0,i0 0,i0 0]],.lst 9 false [[i0 0,i0 0,.str (⟨#[0,0,0,0,0,0,0,0,0,0,0,0,0,0,0,0]⟩),i0 3,i0 0,i0 0,i0 0,i0 0,i0 0],z9,z9,z9,z9,z9,z9,z9],.lst 6 false [[i0 1,i0 8,i0 1,i0 2,i0 4,.lst 1 false [[i0 2],[i0 3],[i0 4],[i0 5],[i0 6],[i0 7],[i0 8]]]],.lst 3 false [[i0 8,i0 0,i0 1]],.lst 3 false [[.lst 1 false [],.lst 1 false [[i0 1]],.lst 1 false []]],.lst 1 false [[i0 0]],.lst 5 false []]
def k2:V:=.agg [.lst 15 false [[i0 0,i0 0,i0 0,.lst 0 true [],i0 1,i0 1,i0 3,i0 0,i0 0,i0 0,i0 0,i0 0,i0 0,i0 0,i0 0]],.lst 9 false [[i0 0,i0 0,.str (⟨#[97,98,99,0,0,0,0,0,0,0,0,0,0,0,0,0]⟩),i0 3,i0 1,i0 0,i0 0,i0 0,i0 0],z9,z9,z9,z9,z9,z9,z9],.lst 6 false [[i0 1,i0 8,i0 1,i0 2,i0 4,.lst 1 false [[i0 2],[i0 3],[i0 4],[i0 5],[i0 6],[i0 7],[i0 8]]]],.lst 3 false [[i0 8,i0 0,i0 1]],.lst 3 false [[.lst 1 false [],.lst 1 false [[i0 1]],.lst 1 false [[i0 1]]]],.lst 1 false [[i0 0]],.lst 5 false []]
def k3:V:=.agg [.lst 15 false [[i0 0,i0 0,i0 0,.lst 0 true [],i0 1,i0 1,i0 3,i0 0,i0 0,i0 0,i0 0,i0 0,i0 0,i0 0,i0 0]],.lst 9 false [[i0 0,i0 0,.str (⟨#[97,98,99,0,0,0,0,0,0,0,0,0,0,0,0,0]⟩),i0 3,i0 1,i0 0,i0 0,i0 0,i0 0],z9,z9,z9,z9,z9,z9,z9],.lst 6 false [[i0 1,i0 8,i0 1,i0 2,i0 4,.lst 1 false [[i0 2],[i0 3],[i0 4],[i0 5],[i0 6],[i0 7],[i0 8]]]],.lst 3 false [[i0 8,i0 0,i0 1]],.lst 3 false [[.lst 1 false [[i0 1]],.lst 1 false [],.lst 1 false []]],.lst 1 false [[i0 0]],.lst 5 false []]
def k4:V:=.agg [.lst 15 false [[i0 0,i0 0,i0 0,.lst 0 true [],i0 1,i0 1,i0 3,i0 0,i0 0,i0 0,i0 0,i0 0,i0 0,i0 0,i0 0]],.lst 9 false [[i0 0,i0 0,.str (⟨#[97,98,99,0,0,0,0,0,0,0,0,0,0,0,0,0]⟩),i0 3,i0 1,i0 0,i0 1,i0 0,i0 0],z9,z9,z9,z9,z9,z9,z9],.lst 6 false [[i0 1,i0 8,i0 1,i0 2,i0 4,.lst 1 false [[i0 2],[i0 3],[i0 4],[i0 5],[i0 6],[i0 7],[i0 8]]]],.lst 3 false [[i0 8,i0 0,i0 1]],.lst 3 false [[.lst 1 false [],.lst 1 false [[i0 1]],.lst 1 false [[i0 1]]]],.lst 1 false [[i0 0]],.lst 5 false []]
abbrev Tb:=List (Nat×List V×V)
def aNF:Tb→Nat→List V→Option V
 | [],_,_=>none
 | (g,a,v)::r,f,args=>match Nat.beq g f&&eqL (eqV 12) a args with
   |true=>some v
   |false=>aNF r f args
def aVP:Tb→Prop
 | []=>True
 | (g,a,v)::r=>aQ Tryz.prog g [] a v []∧aVP r
theorem aIQ:∀ {t:Tb} {f:Nat} {args:List V} {v:V},aVP t→aNF t f args=some v→aQ Tryz.prog f [] args v []
 | [],_,_,_,_,h=>by cases h
 | (g,a,u)::r,f,args,v,ht,h=>by
   unfold aNF at h
   split at h
   ·rename_i hb
    rw [zH] at hb
    obtain rfl:=zE hb.1
    rw [←mR (sW 12) hb.2]
    cases h
    exact ht.1
   ·exact aIQ ht.2 h
def bEL(t:Tb)(own:Bool)(f:FuncId)(ob0:List Sk.Obj)(args:List V):Option (V×List Sk.Obj):=
 match ob0 with
 | []=>match aNF t f args with
   |some v=>some (v,[])
   |none=>none
 |_::_=>none
noncomputable def E2(t:Tb)(ht:aVP t):En Tryz.prog where
 ext:=bEL t
 hext:=fun own f ob0 args v ob1 h=>by
  unfold bEL at h
  split at h
  ·split at h
   ·rename_i hl
    cases h
    exact aIQ ht hl
   ·cases h
  ·cases h
 qg:=some 140
 hq:=fun g e=>by obtain rfl:=Option.some.inj e;exact aV
 md:=fun _ _ f=>bif Nat.beq f 36 then 2 else 0
 lf:=200
 fz:=fun _=> []
end Go.Proofs.YtmhapcbjjpadnaaGreat
