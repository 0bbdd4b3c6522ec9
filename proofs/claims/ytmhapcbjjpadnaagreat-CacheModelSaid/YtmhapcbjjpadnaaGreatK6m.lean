/- Caches. -/
import Derived.Test.YtmhapcbjjpadnaaGreatK5m
import Derived.Recover
set_option linter.unusedSimpArgs false
set_option linter.unusedVariables false
open Array renaming replicate→zD
open List renaming cons_append→zF
open Nat renaming le_of_ble_eq_true→zA,eq_of_beq_eq_true→zE
open Option renaming map_eq_some_iff→zC
set_option linter.unusedSectionVars false
set_option linter.constructorNameAsVariable false
namespace Go.Sk
open Go Go.RowKit
variable [fQ]
def aSU:List Nat→Nat→Option Nat
 | [],n=>some n
 |k::r,n=>match Nat.beq n k with
  |true=>some k
  |false=>aSU r n
theorem aNJ:∀ {l:List Nat} {n m:Nat},aSU l n=some m→m=n
 | [],n,m,h=>(Option.some.inj h).symm
 |k::r,n,m,h=>by
  simp only [aSU] at h
  split at h
  ·rename_i e;rw [zE e];exact(Option.some.inj h).symm
  ·exact aNJ h
def gY(n:Nat):Option Nat:=aSU [0,1,2,3,4,5,6,7,8,9,10,11,12,13,14,15,16,17,18,19,20,21,22,23,24,25,26,27,28,29,30,31,32,33,34,35,36,37,38,39,40,48,56,64,72,80,88,96,104,112,120,128,136,144,152,160,168,176,184,192,200,208,216,224,232,240,248,256,264,272,280,288,296,304,312,320,328,336,344,352,360,368,376,384,392,400,408,416,424,432,440,448,456,464,472,480] n
theorem cE {n m:Nat} (h:gY n=some m):m=n:=aNJ h
def aGJ(n:Nat):Option Nat:=match gY (n/1024),aSU [0,16,32,48,64,80,96,112,128,144,160,176,192,208,224,240,256,272,288,304,320,336,352,368,384,400,416,432,448,464,480,496,512,528,544,560,576,592,608,624,640,656,672,688,704,720,736,752,768,784,800,816,832,848,864,880,896,912,928,944,960,976,992,1008] (n%1024) with
 |some q,some r=>match Nat.beq n (1024*q+r) with
  |true=>some (1024*q+r)
  |false=>none
 |_,_=>none
theorem aGK {n m:Nat} (h:aGJ n=some m):m=n:=by
 unfold aGJ at h
 repeat' split at h
 all_goals first | (cases h;done)| (rename_i e;rw [zE e];exact(Option.some.inj h).symm)
def eZ {α:Type} (f:α→Option α):List α→Option (List α)
 | []=>some []
 |a::r=>match f a,eZ f r with
  |some a,some r=>some (a::r)
  |_,_=>none
theorem cZ {α:Type} {f:α→Option α} (hf:∀a b,f a=some b→b=a):∀ {l m:List α},eZ f l=some m→m=l
 | [],m,h=>(Option.some.inj h).symm
 |a::r,m,h=>by
  simp only [eZ] at h
  split at h
  ·rename_i a' r' h1 h2
   obtain rfl:=Option.some.inj h
   rw [hf _ _ h1,cZ hf h2]
  ·cases h
def nV:V→Option V
 | .rp es cs c=>match gY es,eZ (fun v=>some v) cs with
   |some es,some cs=>some (.rp es cs c)
   |_,_=>none
 | .fn f cs=>some (.fn f cs)
 |v=>some v
theorem bEY {v u:V} (h:nV v=some u):u=v:=by
 unfold nV at h
 split at h
 ·split at h
  ·rename_i h1 h2
   obtain rfl:=Option.some.inj h
   rw [cE h1,cZ (fun _ _ h=>(Option.some.inj h).symm) h2]
  ·cases h
 ·exact(Option.some.inj h).symm
 ·exact(Option.some.inj h).symm
def nA:A→Option A
 | .t n=>some (.t n)
 | .c v=>match nV v with
   |some v=>some (.c v)
   |none=>none
theorem aZ {a b:A} (h:nA a=some b):b=a:=by
 cases a with
 |t n=>exact(Option.some.inj h).symm
 |c v=>
  simp only [nA] at h
  split at h
  ·rename_i h1;rw [←bEY h1];exact(Option.some.inj h).symm
  ·cases h
def nO:Option A→Option (Option A)
 |none=>some none
 |some a=>match nA a with
  |some a=>some (some a)
  |none=>none
theorem aF5 {a b:Option A} (h:nO a=some b):b=a:=by
 cases a with
 |none=>exact(Option.some.inj h).symm
 |some v=>
  simp only [nO] at h
  split at h
  ·rename_i h1;rw [←aZ h1];exact(Option.some.inj h).symm
  ·cases h
def nPB:Nat×Kd→Option (Nat×Kd)
 | (n,b)=>match gY n,b with
   |some n,.i=>some (n,.i)
   |some n,.b=>some (n,.b)
   |some n,.s=>some (n,.s)
   |none,_=>none
theorem bC3 {p q:Nat×Kd} (h:nPB p=some q):q=p:=by
 obtain⟨n,b⟩:=p
 simp only [nPB] at h
 split at h
 all_goals first
  | (cases h;done)
  | (rename_i h1;rw [←cE h1];exact(Option.some.inj h).symm)
def nPA:Nat×A→Option (Nat×A)
 | (n,a)=>match gY n,nA a with
   |some n,some a=>some (n,a)
   |_,_=>none
theorem bC2 {p q:Nat×A} (h:nPA p=some q):q=p:=by
 obtain⟨n,a⟩:=p
 simp only [nPA] at h
 split at h
 ·rename_i h1 h2;rw [←cE h1,←aZ h2];exact(Option.some.inj h).symm
 ·cases h
def bC4:Nat×Nat×A→Option (Nat×Nat×A)
 | (n,m,a)=>match gY n,gY m,nA a with
   |some n,some m,some a=>some (n,m,a)
   |_,_,_=>none
theorem aX7 {p q:Nat×Nat×A} (h:bC4 p=some q):q=p:=by
 obtain⟨n,m,a⟩:=p
 simp only [bC4] at h
 split at h
 ·rename_i h1 h2 h3;rw [←cE h1,←cE h2,←aZ h3];exact(Option.some.inj h).symm
 ·cases h
def nI:I→Option I
 | .mv x0=>match nA x0 with
   |some x0=>some (.mv x0)
   |_=>none
 | .pick x0 x1 x2=>match nA x0,nA x1,nA x2 with
   |some x0,some x1,some x2=>some (.pick x0 x1 x2)
   |_,_,_=>none
 | .un x0 x1=>match nA x1 with
   |some x1=>some (.un x0 x1)
   |_=>none
 | .bin x0 x1 x2=>match nA x1,nA x2 with
   |some x1,some x2=>some (.bin x0 x1 x2)
   |_,_=>none
 | .conv x0 x1=>match nA x1 with
   |some x1=>some (.conv x0 x1)
   |_=>none
 | .nilck x0=>match nA x0 with
   |some x0=>some (.nilck x0)
   |_=>none
 | .faddr x0 x1=>match gY x0,nA x1 with
   |some x0,some x1=>some (.faddr x0 x1)
   |_,_=>none
 | .fget x0 x1 x2 x3=>match gY x1,gY x2,nA x3 with
   |some x1,some x2,some x3=>some (.fget x0 x1 x2 x3)
   |_,_,_=>none
 | .ld x0 x1 x2=>match gY x1,nA x2 with
   |some x1,some x2=>some (.ld x0 x1 x2)
   |_,_=>none
 | .st x0 x1 x2=>match gY x0,nA x1,nA x2 with
   |some x0,some x1,some x2=>some (.st x0 x1 x2)
   |_,_,_=>none
 | .iaddr x0 x1 x2=>match gY x0,nA x1,nA x2 with
   |some x0,some x1,some x2=>some (.iaddr x0 x1 x2)
   |_,_,_=>none
 | .iarr x0 x1 x2 x3=>match gY x0,gY x1,nA x2,nA x3 with
   |some x0,some x1,some x2,some x3=>some (.iarr x0 x1 x2 x3)
   |_,_,_,_=>none
 | .aidx x0 x1 x2=>match gY x0,nA x1,nA x2 with
   |some x0,some x1,some x2=>some (.aidx x0 x1 x2)
   |_,_,_=>none
 | .slc x0 x1 x2 x3=>match gY x0,nA x1,nO x2,nO x3 with
   |some x0,some x1,some x2,some x3=>some (.slc x0 x1 x2 x3)
   |_,_,_,_=>none
 | .slc3 x0 x1 x2 x3 x4=>match gY x0,nA x1,nO x2,nA x3,nA x4 with
   |some x0,some x1,some x2,some x3,some x4=>some (.slc3 x0 x1 x2 x3 x4)
   |_,_,_,_,_=>none
 | .isnil x0 x1=>match nA x1 with
   |some x1=>some (.isnil x0 x1)
   |_=>none
 | .mkfn x0 x1=>match eZ nA x1 with
   |some x1=>some (.mkfn x0 x1)
   |_=>none
 | .len x0=>match nA x0 with
   |some x0=>some (.len x0)
   |_=>none
 | .mx x0 x1=>match nA x0,nA x1 with
   |some x0,some x1=>some (.mx x0 x1)
   |_,_=>none
 | .mn x0 x1=>match nA x0,nA x1 with
   |some x0,some x1=>some (.mn x0 x1)
   |_,_=>none
 | .extr x0 x1=>match nA x1 with
   |some x1=>some (.extr x0 x1)
   |_=>none
 | .eqb x0 x1 x2=>match nA x1,nA x2 with
   |some x1,some x2=>some (.eqb x0 x1 x2)
   |_,_=>none
 | .eqs x0 x1 x2 x3=>match eZ nPB x1,nA x2,nA x3 with
   |some x1,some x2,some x3=>some (.eqs x0 x1 x2 x3)
   |_,_,_=>none
 | .slen x0=>match nA x0 with
   |some x0=>some (.slen x0)
   |_=>none
 | .sidx x0 x1=>match nA x0,nA x1 with
   |some x0,some x1=>some (.sidx x0 x1)
   |_,_=>none
 | .ssl x0 x1 x2=>match nA x0,nO x1,nO x2 with
   |some x0,some x1,some x2=>some (.ssl x0 x1 x2)
   |_,_,_=>none
 | .scat x0 x1=>match nA x0,nA x1 with
   |some x0,some x1=>some (.scat x0 x1)
   |_,_=>none
 | .sqs x0 x1 x2=>match nA x1,nA x2 with
   |some x1,some x2=>some (.sqs x0 x1 x2)
   |_,_=>none
 | .b2s x0=>match nA x0 with
   |some x0=>some (.b2s x0)
   |_=>none
 | .s2b x0=>match nA x0 with
   |some x0=>some (.s2b x0)
   |_=>none
 | .aslc x0 x1 x2=>match gY x0,nA x1,nO x2 with
   |some x0,some x1,some x2=>some (.aslc x0 x1 x2)
   |_,_,_=>none
 | .cpys x0 x1=>match nA x0,nA x1 with
   |some x0,some x1=>some (.cpys x0 x1)
   |_,_=>none
 | .build x0 x1=>match eZ (fun v=>some v) x0,eZ bC4 x1 with
   |some x0,some x1=>some (.build x0 x1)
   |_,_=>none
 | .alloc x0=>match eZ (fun v=>some v) x0 with
   |some x0=>some (.alloc x0)
   |_=>none
 | .box x0=>match nA x0 with
   |some x0=>some (.box x0)
   |_=>none
 | .bslice x0 x1 x2 x3=>match gY x0,eZ (fun v=>some v) x1,eZ nPA x3 with
   |some x0,some x1,some x3=>some (.bslice x0 x1 x2 x3)
   |_,_,_=>none
 | .mk x0 x1 x2 x3 x4=>match gY x0,gY x1,eZ (fun v=>some v) x2,nA x3,nA x4 with
   |some x0,some x1,some x2,some x3,some x4=>some (.mk x0 x1 x2 x3 x4)
   |_,_,_,_,_=>none
 | .app x0 x1 x2 x3=>match gY x0,gY x1,nA x2,nA x3 with
   |some x0,some x1,some x2,some x3=>some (.app x0 x1 x2 x3)
   |_,_,_,_=>none
 | .cpy x0 x1 x2=>match gY x0,nA x1,nA x2 with
   |some x0,some x1,some x2=>some (.cpy x0 x1 x2)
   |_,_,_=>none
 | .mkmap ks=>match gY ks with
   |some ks=>some (.mkmap ks)
   |none=>none
 | .mget x0 x1 x2 x3=>match nA x2,nA x3 with
   |some x2,some x3=>some (.mget x0 x1 x2 x3)
   |_,_=>none
 | .mput x0 x1 x2=>match nA x0,nA x1,nA x2 with
   |some x0,some x1,some x2=>some (.mput x0 x1 x2)
   |_,_,_=>none
 | .mgetp x0 x1 x2 x3=>match nA x2,nA x3 with
   |some x2,some x3=>some (.mgetp x0 x1 x2 x3)
   |_,_=>none
 | .mputp x0 x1 x2=>match nA x0,nA x1,nA x2 with
   |some x0,some x1,some x2=>some (.mputp x0 x1 x2)
   |_,_,_=>none
 | .clr x0 x1 x2=>match gY x0,eZ (fun v=>some v) x1,nA x2 with
   |some x0,some x1,some x2=>some (.clr x0 x1 x2)
   |_,_,_=>none
 | .bad=>some .bad
 | .call x0 x1=>match eZ nA x1 with
   |some x1=>some (.call x0 x1)
   |_=>none
 | .vcall x0 x1=>match nA x0,eZ nA x1 with
   |some x0,some x1=>some (.vcall x0 x1)
   |_,_=>none
theorem aZB {i j:I} (h:nI i=some j):j=i:=by
 cases i
 ·simp only [nI] at h
  split at h
  ·rename_i h0
   obtain rfl:=Option.some.inj h
   rw [aZ h0]
  ·cases h
 ·simp only [nI] at h
  split at h
  ·rename_i h0 h1 h2
   obtain rfl:=Option.some.inj h
   rw [aZ h0,aZ h1,aZ h2]
  ·cases h
 ·simp only [nI] at h
  split at h
  ·rename_i h0
   obtain rfl:=Option.some.inj h
   rw [aZ h0]
  ·cases h
 ·simp only [nI] at h
  split at h
  ·rename_i h0 h1
   obtain rfl:=Option.some.inj h
   rw [aZ h0,aZ h1]
  ·cases h
 ·simp only [nI] at h
  split at h
  ·rename_i h0
   obtain rfl:=Option.some.inj h
   rw [aZ h0]
  ·cases h
 ·simp only [nI] at h
  split at h
  ·rename_i h0
   obtain rfl:=Option.some.inj h
   rw [aZ h0]
  ·cases h
 ·simp only [nI] at h
  split at h
  ·rename_i h0 h1
   obtain rfl:=Option.some.inj h
   rw [cE h0,aZ h1]
  ·cases h
 ·simp only [nI] at h
  split at h
  ·rename_i h0 h1 h2
   obtain rfl:=Option.some.inj h
   rw [cE h0,cE h1,aZ h2]
  ·cases h
 ·simp only [nI] at h
  split at h
  ·rename_i h0 h1
   obtain rfl:=Option.some.inj h
   rw [cE h0,aZ h1]
  ·cases h
 ·simp only [nI] at h
  split at h
  ·rename_i h0 h1 h2
   obtain rfl:=Option.some.inj h
   rw [cE h0,aZ h1,aZ h2]
  ·cases h
 ·simp only [nI] at h
  split at h
  ·rename_i h0 h1 h2
   obtain rfl:=Option.some.inj h
   rw [cE h0,aZ h1,aZ h2]
  ·cases h
 ·simp only [nI] at h
  split at h
  ·rename_i h0 h1 h2 h3
   obtain rfl:=Option.some.inj h
   rw [cE h0,cE h1,aZ h2,aZ h3]
  ·cases h
 ·simp only [nI] at h
  split at h
  ·rename_i h0 h1 h2
   obtain rfl:=Option.some.inj h
   rw [cE h0,aZ h1,aZ h2]
  ·cases h
 ·simp only [nI] at h
  split at h
  ·rename_i h0 h1 h2 h3
   obtain rfl:=Option.some.inj h
   rw [cE h0,aZ h1,aF5 h2,aF5 h3]
  ·cases h
 ·simp only [nI] at h
  split at h
  ·rename_i h0 h1 h2 h3 h4
   obtain rfl:=Option.some.inj h
   rw [cE h0,aZ h1,aF5 h2,aZ h3,aZ h4]
  ·cases h
 ·simp only [nI] at h
  split at h
  ·rename_i h0
   obtain rfl:=Option.some.inj h
   rw [aZ h0]
  ·cases h
 ·simp only [nI] at h
  split at h
  ·rename_i h0
   obtain rfl:=Option.some.inj h
   rw [(cZ (fun _ _ h=>aZ h) h0)]
  ·cases h
 ·simp only [nI] at h
  split at h
  ·rename_i h0
   obtain rfl:=Option.some.inj h
   rw [aZ h0]
  ·cases h
 ·simp only [nI] at h
  split at h
  ·rename_i h0 h1
   obtain rfl:=Option.some.inj h
   rw [aZ h0,aZ h1]
  ·cases h
 ·simp only [nI] at h
  split at h
  ·rename_i h0 h1
   obtain rfl:=Option.some.inj h
   rw [aZ h0,aZ h1]
  ·cases h
 ·simp only [nI] at h
  split at h
  ·rename_i h0
   obtain rfl:=Option.some.inj h
   rw [aZ h0]
  ·cases h
 ·simp only [nI] at h
  split at h
  ·rename_i h0 h1
   obtain rfl:=Option.some.inj h
   rw [aZ h0,aZ h1]
  ·cases h
 ·simp only [nI] at h
  split at h
  ·rename_i h0 h1 h2
   obtain rfl:=Option.some.inj h
   rw [(cZ (fun _ _ h=>bC3 h) h0),aZ h1,aZ h2]
  ·cases h
 ·simp only [nI] at h
  split at h
  ·rename_i h0
   obtain rfl:=Option.some.inj h
   rw [aZ h0]
  ·cases h
 ·simp only [nI] at h
  split at h
  ·rename_i h0 h1
   obtain rfl:=Option.some.inj h
   rw [aZ h0,aZ h1]
  ·cases h
 ·simp only [nI] at h
  split at h
  ·rename_i h0 h1 h2
   obtain rfl:=Option.some.inj h
   rw [aZ h0,aF5 h1,aF5 h2]
  ·cases h
 ·simp only [nI] at h
  split at h
  ·rename_i h0 h1
   obtain rfl:=Option.some.inj h
   rw [aZ h0,aZ h1]
  ·cases h
 ·simp only [nI] at h
  split at h
  ·rename_i h0 h1
   obtain rfl:=Option.some.inj h
   rw [aZ h0,aZ h1]
  ·cases h
 ·simp only [nI] at h
  split at h
  ·rename_i h0
   obtain rfl:=Option.some.inj h
   rw [aZ h0]
  ·cases h
 ·simp only [nI] at h
  split at h
  ·rename_i h0
   obtain rfl:=Option.some.inj h
   rw [aZ h0]
  ·cases h
 ·simp only [nI] at h
  split at h
  ·rename_i h0 h1 h2
   obtain rfl:=Option.some.inj h
   rw [cE h0,aZ h1,aF5 h2]
  ·cases h
 ·simp only [nI] at h
  split at h
  ·rename_i h0 h1
   obtain rfl:=Option.some.inj h
   rw [aZ h0,aZ h1]
  ·cases h
 ·simp only [nI] at h
  split at h
  ·rename_i h0 h1
   obtain rfl:=Option.some.inj h
   rw [(cZ (fun _ _ h=>(Option.some.inj h).symm) h0),(cZ (fun _ _ h=>aX7 h) h1)]
  ·cases h
 ·simp only [nI] at h
  split at h
  ·rename_i h0
   obtain rfl:=Option.some.inj h
   rw [(cZ (fun _ _ h=>(Option.some.inj h).symm) h0)]
  ·cases h
 ·simp only [nI] at h
  split at h
  ·rename_i h0
   obtain rfl:=Option.some.inj h
   rw [aZ h0]
  ·cases h
 ·simp only [nI] at h
  split at h
  ·rename_i h0 h1 h2
   obtain rfl:=Option.some.inj h
   rw [cE h0,(cZ (fun _ _ h=>(Option.some.inj h).symm) h1),(cZ (fun _ _ h=>bC2 h) h2)]
  ·cases h
 ·simp only [nI] at h
  split at h
  ·rename_i h0 h1 h2 h3 h4
   obtain rfl:=Option.some.inj h
   rw [cE h0,cE h1,(cZ (fun _ _ h=>(Option.some.inj h).symm) h2),aZ h3,aZ h4]
  ·cases h
 ·simp only [nI] at h
  split at h
  ·rename_i h0 h1 h2 h3
   obtain rfl:=Option.some.inj h
   rw [cE h0,cE h1,aZ h2,aZ h3]
  ·cases h
 ·simp only [nI] at h
  split at h
  ·rename_i h0 h1 h2
   obtain rfl:=Option.some.inj h
   rw [cE h0,aZ h1,aZ h2]
  ·cases h
 ·simp only [nI] at h
  split at h
  ·rename_i h0
   obtain rfl:=Option.some.inj h
   rw [cE h0]
  ·cases h
 ·simp only [nI] at h
  split at h
  ·rename_i h0 h1
   obtain rfl:=Option.some.inj h
   rw [aZ h0,aZ h1]
  ·cases h
 ·simp only [nI] at h
  split at h
  ·rename_i h0 h1 h2
   obtain rfl:=Option.some.inj h
   rw [aZ h0,aZ h1,aZ h2]
  ·cases h
 ·simp only [nI] at h
  split at h
  ·rename_i h0 h1
   obtain rfl:=Option.some.inj h
   rw [aZ h0,aZ h1]
  ·cases h
 ·simp only [nI] at h
  split at h
  ·rename_i h0 h1 h2
   obtain rfl:=Option.some.inj h
   rw [aZ h0,aZ h1,aZ h2]
  ·cases h
 ·simp only [nI] at h
  split at h
  ·rename_i h0 h1 h2
   obtain rfl:=Option.some.inj h
   rw [cE h0,(cZ (fun _ _ h=>(Option.some.inj h).symm) h1),aZ h2]
  ·cases h
 ·simp only [nI] at h
  split at h
  ·rename_i h0
   obtain rfl:=Option.some.inj h
   rw [(cZ (fun _ _ h=>aZ h) h0)]
  ·cases h
 ·simp only [nI] at h
  split at h
  ·rename_i h0 h1
   obtain rfl:=Option.some.inj h
   rw [aZ h0,(cZ (fun _ _ h=>aZ h) h1)]
  ·cases h
 ·exact(Option.some.inj h).symm
def eG:A→List Nat
 | .t n=> [n]
 | .c _=> []
def usO:Option A→List Nat
 |some a=>eG a
 |none=> []
def usL:List A→List Nat
 | []=> []
 |a::r=>eG a++usL r
def usR:List (Nat×A)→List Nat
 | []=> []
 | (_,a)::r=>eG a++usR r
def usQ:List (Nat×Nat×A)→List Nat
 | []=> []
 | (_,_,a)::r=>eG a++usQ r
def usI:I→List Nat
 | .mv x0=>eG x0
 | .pick x0 x1 x2=>eG x0++eG x1++eG x2
 | .un _ x1=>eG x1
 | .bin _ x1 x2=>eG x1++eG x2
 | .conv _ x1=>eG x1
 | .nilck x0=>eG x0
 | .faddr _ x1=>eG x1
 | .fget _ _ _ x3=>eG x3
 | .ld _ _ x2=>eG x2
 | .st _ x1 x2=>eG x1++eG x2
 | .iaddr _ x1 x2=>eG x1++eG x2
 | .iarr _ _ x2 x3=>eG x2++eG x3
 | .aidx _ x1 x2=>eG x1++eG x2
 | .slc _ x1 x2 x3=>eG x1++usO x2++usO x3
 | .slc3 _ x1 x2 x3 x4=>eG x1++usO x2++eG x3++eG x4
 | .isnil _ x1=>eG x1
 | .mkfn _ x1=>usL x1
 | .len x0=>eG x0
 | .mx x0 x1=>eG x0++eG x1
 | .mn x0 x1=>eG x0++eG x1
 | .extr _ x1=>eG x1
 | .eqb _ x1 x2=>eG x1++eG x2
 | .eqs _ _ x2 x3=>eG x2++eG x3
 | .slen x0=>eG x0
 | .sidx x0 x1=>eG x0++eG x1
 | .ssl x0 x1 x2=>eG x0++usO x1++usO x2
 | .scat x0 x1=>eG x0++eG x1
 | .sqs _ x1 x2=>eG x1++eG x2
 | .b2s x0=>eG x0
 | .s2b x0=>eG x0
 | .aslc _ x1 x2=>eG x1++usO x2
 | .cpys x0 x1=>eG x0++eG x1
 | .build _ x1=>usQ x1
 | .alloc _=> []
 | .box x0=>eG x0
 | .bslice _ _ _ x3=>usR x3
 | .mk _ _ _ x3 x4=>eG x3++eG x4
 | .app _ _ x2 x3=>eG x2++eG x3
 | .cpy _ x1 x2=>eG x1++eG x2
 | .mkmap _=> []
 | .mget _ _ x2 x3=>eG x2++eG x3
 | .mgetp _ _ x2 x3=>eG x2++eG x3
 | .mput x0 x1 x2=>eG x0++eG x1++eG x2
 | .mputp x0 x1 x2=>eG x0++eG x1++eG x2
 | .clr _ _ x2=>eG x2
 | .call _ x1=>usL x1
 | .vcall x0 x1=>eG x0++usL x1
 | .bad=> []
def inN(n:Nat):List Nat→Bool
 | []=>false
 |k::r=>match Nat.beq n k with
  |true=>true
  |false=>inN n r
def unN:List Nat→List Nat→Option (List Nat)
 | [],l=>some l
 |n::r,l=>match inN n l with
  |true=>unN r l
  |false=>unN r (n::l)
def aX4:List Nat→List Nat→Option (List Nat)
 | [],_=>some []
 |n::r,l=>match inN n l with
  |true=>aX4 r l
  |false=>match aX4 r l with
   |some q=>some (n::q)
   |none=>none
def nG:Option (Nat×Bool)→Option (Option (Nat×Bool))
 |none=>some none
 |some (n,true)=>some (some (n,true))
 |some (n,false)=>some (some (n,false))
theorem aZA {g g':Option (Nat×Bool)} (h:nG g=some g'):g'=g:=by
 unfold nG at h
 split at h <;> exact(Option.some.inj h).symm
def aGI:oD→Option oD
 | ⟨none,g,i⟩=>match nG g,nI i with
   |some g,some i=>some ⟨none,g,i⟩
   |_,_=>none
 | ⟨some d,g,i⟩=>match nG g,nI i with
   |some g,some i=>some ⟨some d,g,i⟩
   |_,_=>none
theorem aNI {a b:oD} (h:aGI a=some b):b=a:=by
 obtain⟨d,g,i⟩:=a
 cases d with
 |none=>
  simp only [aGI] at h
  split at h
  ·rename_i h1 h2;rw [←aZA h1,←aZB h2];exact(Option.some.inj h).symm
  ·cases h
 |some d=>
  simp only [aGI] at h
  split at h
  ·rename_i h1 h2;rw [←aZA h1,←aZB h2];exact(Option.some.inj h).symm
  ·cases h
def usG:Option (Nat×Bool)→List Nat
 |some (n,_)=> [n]
 |none=> []
def uX:List oD→List Nat
 | []=> []
 | ⟨_,g,i⟩::r=>usG g++(usI i++uX r)
def mQ:List oD→List Nat
 | []=> []
 | ⟨some d,_,_⟩::r=>d::mQ r
 | ⟨none,_,_⟩::r=>mQ r
def aBG:RC→List Nat
 | .skip=> []
 | .reg l _=>uX l
 | .dreg _ _ l _ _ _=>uX l
 | .seq a b=>aBG a++aBG b
 | .cut a b=>aBG a++aBG b
 | .regc a b _=>uX a++uX b
 | .regv a _ b _=>uX a++uX b
 | .cond c a b=>eG c++(aBG a++aBG b)
 | .block _ c=>aBG c
 | .loop c=>aBG c
 | .uloop c=>aBG c
 | .exit _=> []
 | .ret=> []
 | .bad=> []
def lC:RC→List Nat→Option RC
 | .reg l _,live=>match eZ aGI l with
   |some l=>match unN (mQ l++uX l) [] with
    |some ds=>match aX4 ds live with
     |some k=>some (.reg l k)
     |none=>none
    |none=>none
   |none=>none
 | .dreg b n l _ an ms,live=>match eZ aGI l,aGJ b,aGJ n,eZ (eZ fun v=>gY v) an,eZ aGJ ms with
   |some l,some b,some n,some an,some ms=>match unN (mQ l++uX l) [] with
    |some ds=>match aX4 ds live with
     |some k=>some (.dreg b n l k an ms)
     |none=>none
    |none=>none
   |_,_,_,_,_=>none
 | .seq a b,live=>match unN (aBG b) live with
   |some l=>match lC a l,lC b live with
    |some a,some b=>some (.seq a b)
    |_,_=>none
   |none=>none
 | .cond c a b,live=>match nA c,lC a live,lC b live with
   |some c,some a,some b=>some (.cond c a b)
   |_,_,_=>none
 | .block id c,live=>match lC c live with
   |some c=>some (.block id c)
   |none=>none
 | .loop c,live=>match unN (aBG c) live with
   |some l=>match lC c l with
    |some c=>some (.loop c)
    |none=>none
   |none=>none
 | .exit id,_=>some (.exit id)
 | .ret,_=>some .ret
 | .skip,_=>some .skip
 | .bad,_=>some .bad
 |_,_=>none
theorem tE:∀ {rc:RC} {live:List Nat} {rc':RC},lC rc live=some rc'→strip rc'=strip rc:=by
 intro rc
 induction rc with
 |skip=>intro live rc' h;obtain rfl:=Option.some.inj h;rfl
 |exit id=>intro live rc' h;obtain rfl:=Option.some.inj h;rfl
 |ret=>intro live rc' h;obtain rfl:=Option.some.inj h;rfl
 |bad=>intro live rc' h;obtain rfl:=Option.some.inj h;rfl
 |reg l k=>
  intro live rc' h
  simp only [lC] at h
  repeat' split at h
  all_goals first | (cases h;done)|skip
  cases h
  have e:=cZ (f:=aGI) (fun _ _ h=>aNI h) ‹eZ aGI l=some _›
  rw [e];rfl
 |dreg b n l k an ms=>
  intro live rc' h
  simp only [lC] at h
  repeat' split at h
  all_goals first | (cases h;done)|skip
  cases h
  have e1:=cZ (f:=aGI) (fun _ _ h=>aNI h) ‹eZ aGI l=some _›
  have e2:=aGK ‹aGJ b=some _›
  have e3:=aGK ‹aGJ n=some _›
  have e4:=cZ (f:=eZ fun v=>gY v) (fun _ _ h=>cZ (f:=fun v=>gY v) (fun _ _ h=>cE h) h) ‹eZ (eZ fun v=>gY v) an=some _›
  have e5:=cZ (f:=aGJ) (fun _ _ h=>aGK h) ‹eZ aGJ ms=some _›
  rw [e1,e2,e3,e4,e5];rfl
 |seq a b iha ihb=>
  intro live rc' h
  simp only [lC] at h
  repeat' split at h
  all_goals first | (cases h;done)|skip
  cases h
  simp only [strip,iha ‹lC a _=some _›,ihb ‹lC b _=some _›]
 |cond c a b iha ihb=>
  intro live rc' h
  simp only [lC] at h
  repeat' split at h
  all_goals first | (cases h;done)|skip
  cases h
  simp only [strip,aZ ‹nA c=some _›,iha ‹lC a _=some _›,ihb ‹lC b _=some _›]
 |block id c ih=>
  intro live rc' h
  simp only [lC] at h
  split at h
  ·cases h;simp only [strip,ih ‹lC c _=some _›]
  ·cases h
 |loop c ih=>
  intro live rc' h
  simp only [lC] at h
  repeat' split at h
  all_goals first | (cases h;done)|skip
  cases h
  simp only [strip,ih ‹lC c _=some _›]
 |_=>intro live rc' h;cases h
theorem fG {P:Program} {N:Nat} :∀(c:Code) {rc:RC},dD P N c=some rc→strip rc=rc
 | .skip,rc,h=>by simp only [dD] at h;cases h;rfl
 | .region id ops false,rc,h=>by
   simp only [dD] at h
   repeat' split at h
   all_goals first | (cases h;rfl)|cases h
 | .region id ops true,rc,h=>by
   simp only [dD] at h
   repeat' split at h
   all_goals first | (cases h;rfl)|cases h
 | .seq a b,rc,h=>by
   simp only [dD] at h
   split at h
   ·rename_i h1 h2;cases h;simp only [strip,fG a h1,fG b h2]
   ·cases h
 | .cond c a b,rc,h=>by
   simp only [dD] at h
   split at h
   ·rename_i h0 h1 h2;cases h;simp only [strip,fG a h1,fG b h2]
   ·cases h
 | .block id c,rc,h=>by
   simp only [dD,zC] at h
   obtain⟨b,h1,rfl⟩:=h
   simp only [strip,fG c h1]
 | .loop c,rc,h=>by
   simp only [dD,zC] at h
   obtain⟨b,h1,rfl⟩:=h
   simp only [strip,fG c h1]
 | .exit id,rc,h=>by simp only [dD] at h;cases h;rfl
 | .ret,rc,h=>by simp only [dD] at h;cases h;rfl
 | .rangeFunc ..,rc,h=>by simp only [dD] at h;cases h;rfl
 | .scope _,rc,h=>by simp only [dD] at h;cases h;rfl
 | .label _,rc,h=>by simp only [dD] at h;cases h;rfl
 | .goto _,rc,h=>by simp only [dD] at h;cases h;rfl
 | .refuse _,rc,h=>by simp only [dD] at h;cases h;rfl
inductive Ct where
 |c (n:Nat)
 |r (n:Nat)
 |s (n:Nat)
 |v (n:Nat)
 |u (n:Nat)
 |p (n:Nat)
def aOS(n:Nat):List oD→Bool
 | []=>false
 | ⟨some d,_,_⟩::r=>match Nat.beq d n with
   |true=>true
   |false=>aOS n r
 | ⟨none,_,_⟩::r=>aOS n r
def nE:Ct→RC→Bool
 | .c n,.cond (.t m) a b=>match Nat.beq m n with
   |true=>true
   |false=>nE (.c n) a||nE (.c n) b
 |k,.cond _ a b=>nE k a||nE k b
 | .r n,.reg l _=>aOS n l
 | .r n,.dreg _ _ l _ _ _=>aOS n l
 |k,.seq a b=>nE k a||nE k b
 |k,.cut a b=>nE k a||nE k b
 |k,.block _ a=>nE k a
 |k,.loop a=>nE k a
 |k,.uloop a=>nE k a
 |_,_=>false
def inM(k:Ct):RC→Bool
 | .seq a b=>nE k a||inM k b
 | .cut a b=>nE k a||inM k b
 | .cond _ a b=>inM k a||inM k b
 | .block _ a=>inM k a
 | .loop a=>inM k a
 | .uloop a=>inM k a
 |_=>false
def lI(n:Nat):List oD→Option (List oD×List oD)
 | []=>none
 | ⟨some d,g,i⟩::r=>match Nat.beq d n with
   |true=>some ([⟨some d,g,i⟩],r)
   |false=>match lI n r with
    |some (a,b)=>some (⟨some d,g,i⟩::a,b)
    |none=>none
 | ⟨none,g,i⟩::r=>match lI n r with
   |some (a,b)=>some (⟨none,g,i⟩::a,b)
   |none=>none
theorem rE {n:Nat} :∀ {l a b:List oD},lI n l=some (a,b)→a++b=l
 | [],a,b,h=>by cases h
 | ⟨some d,g,i⟩::r,a,b,h=>by
   simp only [lI] at h
   repeat' split at h
   all_goals first | (rename_i h1;cases h;simp only [zF,rE h1])| (cases h;rfl)|cases h
 | ⟨none,g,i⟩::r,a,b,h=>by
   simp only [lI] at h
   repeat' split at h
   all_goals first | (rename_i h1;cases h;simp only [zF,rE h1])|cases h
def inP(n:Nat):RC→Bool
 | .seq a b=>(nE (.r n) a&&inM (.r n) a)||(inP n a||inP n b)
 | .cut a b=>(nE (.r n) a&&inM (.r n) a)||(inP n a||inP n b)
 | .cond _ a b=>inP n a||inP n b
 | .block _ a=>inP n a
 | .loop a=>inP n a
 | .uloop a=>inP n a
 |_=>false
def bEM(k:Ct)(a:RC):Bool:=
 match k with
 | .p n=>nE (.r n) a&&(inM (.r n) a&& !inP n a)
 |k=>nE k a&& !inM k a
def aAM(n:Nat):RC→Bool
 | .seq a b=>aAM n a||aAM n b
 | .cut a b=>aAM n a||aAM n b
 | .cond _ a b=>aAM n a||aAM n b
 | .block _ a=>aAM n a
 | .loop a=>nE (.r n) a
 | .uloop a=>nE (.r n) a
 |_=>false
def oN(k:Ct):RC→Option RC
 | .reg l kill=>match k with
   | .s n=>match lI n l with
     |some (a,b)=>some (.regc a b kill)
     |none=>some (.reg l kill)
   | .v n=>match lI n l with
     |some (a,b)=>some (.regv a n b kill)
     |none=>some (.reg l kill)
   |_=>some (.reg l kill)
 | .seq a b=>match bEM k a with
   |true=>some (.cut a b)
   |false=>match oN k a,oN k b with
    |some a,some b=>some (.seq a b)
    |_,_=>none
 | .cut a b=>match oN k a,oN k b with
   |some a,some b=>some (.cut a b)
   |_,_=>none
 | .cond c a b=>match oN k a,oN k b with
   |some a,some b=>some (.cond c a b)
   |_,_=>none
 | .block id a=>match oN k a with
   |some a=>some (.block id a)
   |none=>none
 | .loop a=>match k,oN k a with
   | .u n,some b=>match nE (.r n) a,aAM n a with
     |true,false=>some (.uloop b)
     |_,_=>some (.loop b)
   |_,some a=>some (.loop a)
   |_,none=>none
 | .uloop a=>match oN k a with
   |some a=>some (.uloop a)
   |none=>none
 |rc=>some rc
theorem aKY {k:Ct} :∀ {rc rc':RC},oN k rc=some rc'→strip rc'=strip rc:=by
 intro rc
 induction rc with
 |reg l kill=>
  intro rc' h
  simp only [oN] at h
  repeat' split at h
  all_goals first | (rename_i h1;cases h;simp only [strip,rE h1];done)| (cases h;rfl)|cases h
 |seq a b iha ihb=>
  intro rc' h
  simp only [oN] at h
  repeat' split at h
  all_goals first | (cases h;rfl;done)| (rename_i h1 h2;cases h;simp only [strip,iha h1,ihb h2];done)|cases h
 |cut a b iha ihb=>
  intro rc' h
  simp only [oN] at h
  repeat' split at h
  all_goals first | (rename_i h1 h2;cases h;simp only [strip,iha h1,ihb h2];done)|cases h
 |cond c a b iha ihb=>
  intro rc' h
  simp only [oN] at h
  repeat' split at h
  all_goals first | (rename_i h1 h2;cases h;simp only [strip,iha h1,ihb h2];done)|cases h
 |block id c ih=>
  intro rc' h
  simp only [oN] at h
  split at h
  ·rename_i h1;cases h;simp only [strip,ih h1]
  ·cases h
 |loop c ih=>
  intro rc' h
  simp only [oN] at h
  repeat' split at h
  all_goals first | (cases h;simp only [strip,ih ‹oN _ c=some _›];done)|cases h
 |uloop c ih=>
  intro rc' h
  simp only [oN] at h
  split at h
  ·rename_i h1;cases h;simp only [strip,ih h1]
  ·cases h
 |_=>intro rc' h;cases h;rfl
def aEK:List Ct→RC→Option RC
 | [],rc=>some rc
 |k::r,rc=>match oN k rc with
  |some rc=>aEK r rc
  |none=>none
theorem qG:∀ {ks:List Ct} {rc rc':RC},aEK ks rc=some rc'→strip rc'=strip rc
 | [],rc,rc',h=>by cases h;rfl
 |k::r,rc,rc',h=>by
  simp only [aEK] at h
  split at h
  ·rename_i h1;rw [qG h,aKY h1]
  ·cases h
def aGX(P:Program)(N:Nat)(live:List Nat)(ks:List Ct)(c:Code):Option RC:=
 match dD P N c with
 |some rc=>match lC rc live with
  |some rc=>aEK ks rc
  |none=>none
 |none=>none
theorem pF {P:Program} {N:Nat} {live:List Nat} {ks:List Ct} {c:Code} {rc:RC} (h:aGX P N live ks c=some rc):dD P N c=some (strip rc):=by
 unfold aGX at h
 split at h
 ·rename_i rc0 h0
  split at h
  ·rename_i rc1 h1
   rw [qG h,tE h1,fG c h0,h0]
  ·cases h
 ·cases h
def jT:List RV→List Nat
 | []=> []
 | .tmp t::r=>t::jT r
 | .cell t _ _::r=>t::jT r
def aDD:List V→Nat→List Nat→List Nat
 | [],_,l=>l
 |_::r,k,l=>k::aDD r (k+1) l
theorem aF(ks:List Ct) {P:Program} {f:FuncId} {fn:Func} {rc:RC} {rvs:List RV} {ob0 ob1:List Obj} {args:List V} {res:V} (hf:P.funcs[f]? =some fn)(hb0:fn.body.isSome=true)
 (hrv:fn.results.toList.mapM (iU P)=some rvs) (hres:aGX P fn.ntmps (aDD args 0 (jT rvs)) ks (fn.body.getD .skip)=some rc) (hn:Nat.ble args.length fn.ntmps=true)
 (hK:cG 16 0 ob0.length fun n0=>Cd P n0 rc ⟨eL 0 args,aL 0 ob0,n0⟩ (fO P n0 rvs res ob1)):aQ P f ob0 args res ob1:=
 bBL hf hb0 (pF hres) hrv (zA hn) hK
theorem aBM(ks:List Ct) {P:Program} {f:FuncId} {fn:Func} {rc:RC} {rvs:List RV} {ob0 ob1:List Obj} {args:List V} {res:V} (hf:P.funcs[f]? =some fn)(hb0:fn.body.isSome=true)
 (hrv:fn.results.toList.mapM (iU P)=some rvs) (hres:aGX P fn.ntmps (aDD args 0 (jT rvs)) ks (fn.body.getD .skip)=some rc) (hn:Nat.ble args.length fn.ntmps=true)
 (hK:cG 16 0 ob0.length fun nx=>Cd P 0 rc ⟨eL 0 args,aL 0 ob0,nx⟩ (fO P 0 rvs res ob1)):FnM P f ob0 args res ob1:=
 aS1 hf hb0 (pF hres) hrv (zA hn) (by rw [dQ] at hK;rw [←codeF_eq];exact hK.h)
def CdB(P:Program)(n0:Nat):RC→St→(Ex→St→Prop)→Prop
 | .skip,st,K=>K .normal st
 | .exit id,st,K=>K (.exit id) st
 | .ret,st,K=>K .ret st
 | .bad,_,_=>False
 | .reg l kill,st,K=>aBD P l st fun | ⟨sl0,so0,nx0⟩=>eH kill sl0 fun sl=>K .normal ⟨sl,so0,nx0⟩
 | .dreg b0 n l kill an ms,st,K=>match Nat.ble st.nx b0 with
   |true=>lY P l ms ⟨st.sl,st.so,n⟩ fun |recs,⟨sl0,so0,nx0⟩=>lX recs an 0=true∧eH kill (look sl0 (pS sl0)) fun sl=>K .normal ⟨sl,so0,nx0⟩
   |false=>lY P l (shM st.nx ms) ⟨st.sl,st.so,n+st.nx⟩ fun |recs,⟨sl0,so0,nx0⟩=>lX recs an 0=true∧eH kill (look sl0 (pS sl0)) fun sl=>K .normal ⟨sl,so0,nx0⟩
 | .seq a b,st,K=>Cd P n0 a st (bE5 P n0 b K)
 | .cut a b,st,K=>∃(α:Type) (I:α→Prop) (F:α→St),Cd P n0 a st (bDZ n0 I F K)∧∀x,I x→Cd P n0 b (F x) K
 | .regc a b kill,st,K=>codeF P n0 (.regc a b kill) st K
 | .regv a d b kill,st,K=>codeF P n0 (.regv a d b kill) st K
 | .cond c a b,st,K=>match bN st.sl [] c with
   | .bool x=>cq x (Cd P n0 a st K) (Cd P n0 b st K)
   |_=>False
 | .block id c,st,K=>Cd P n0 c st (aR3 id K)
 | .loop c,st,K=>∃(α:Type) (I:α→Prop) (F:α→St) (m:α→Nat),(∃a,I a∧View n0 st (F a))∧∀a,I a→Cd P n0 c (F a) (aMI n0 I F m a K)
 | .uloop c,st,K=>∃n,sL (Cd P n0 c) K n st
theorem Cd.go {P:Program} {n0:Nat} {rc:RC} {st:St} {K:Ex→St→Prop} (h:CdB P n0 rc st K):Cd P n0 rc st K:=by
 cases rc with
 |skip=>exact Cd.skip h
 |exit id=>exact Cd.exit h
 |ret=>exact Cd.ret h
 |bad=>exact h.elim
 |reg l k=>exact Cd.reg h
 |dreg b n l k an ms=>exact⟨h⟩
 |seq a b=>exact Cd.seq h
 |cut a b=>exact Cd.cut h
 |regc a b k=>exact⟨h⟩
 |regv a d b k=>exact⟨h⟩
 |cond c a b=>exact Cd.cond h
 |block id c=>exact Cd.block h
 |loop c=>exact Cd.loop h
 |uloop c=>exact Cd.uloop h
end Go.Sk
namespace Go.Sk
open Go Go.RowKit
variable [fQ]
section
variable {P:Program} {U:Nat→Prop} {N:Nat}
def Quiet(P:Program)(g:FuncId):Prop:=∀(args:Array Value) (w:World),CallsD P g args .returning w fun e u' w'=>(∃v,e=.returned v)∧u'=.returning∧w'=w
theorem aPG [vF] {n0:Nat} {σ0 σ':Sg} {ob0 ob1:List Obj} {rvs:List RV} {res:V} {fn:Func} {st':St} {act':Act} {w w':World} (hrv:fn.results.toList.mapM (iU P)=some rvs)(hfresh:∀k,ob0.length≤k→σ0 k=none)
 (hr':cP U N σ' st' act' w') (g':bL σ0 (aL 0 ob0) w ob0.length σ' st'.so w' st'.nx) (hfin:aKC ob0.length rvs res ob1 st'):
 ∃v,(results fn act'.tmps).run P w'=.ok v w'∧(∃cv σ'',Ending.returned v=.returned cv∧aS U σ'' (aL 0 ob1) w' ob1.length∧VR (Own U σ'' (aL 0 ob1)) w' σ'' res cv∧bL σ0 (aL 0 ob0) w ob0.length σ'' (aL 0 ob1) w' ob1.length):=by
 obtain⟨vs,cvs,⟨ids,q1,q2',q3',q4',q5⟩,hlen,hvs,hrun⟩:=rV hr' _ rvs hrv _ hfin
 have q2:=nR q2'
 have q3:∀j,j<ob0.length→ids[j]? =some (some j):=fun j hj=>by have :=mB _ 0 ids q3' j hj;rwa [Nat.zero_add] at this
 have q4:=zA q4'
 refine⟨(if h:cvs.toArray.size=1 then cvs.toArray[0] else .tuple cvs.toArray),?_,_,pU σ' ids ob1,rfl,hr'.rel.view q1 q2,?_,⟨g'.keep,fun b hb hO=>?_,fun k hk=>?_,q4⟩⟩
 ·have he:results fn act'.tmps=(do let vs←fn.results.mapM (aAX act'.tmps);pure (if h:vs.size=1 then vs[0] else .tuple vs)):=by
   unfold results
   congr 1
  rw [he,Sem.run_bind,Array.mapM_eq_mapM_toList]
  simp only [Sem.run_map,hrun,Result.andThen_ok,Sem.run_pure]
 ·refine aMB hr'.rel q1 q5 ?_
  match vs,cvs,hlen,hvs with
  | [v],[cv],_,hvs=>exact hvs 0 v cv rfl rfl
  | [],[],_,_=>exact .tup rfl (by simp)
  |v1::v2::vs,c1::c2::cvs,hlen,hvs=>
   have :¬((c1::c2::cvs).toArray.size=1):=by simp
   rw [dif_neg this]
   exact .tup (by simpa using hlen.symm) fun i v c hv hc=>hvs i v c hv (by simpa using hc)
 ·obtain⟨j,k,p,es,cap,-,e2,e3⟩:=kD q1 hO
  exact g'.own b hb ⟨k,p,es,cap,e2,e3⟩
 ·rw [←g'.sg k hk]
  simp [pU,q3 k (Nat.lt_of_not_le fun hle=>hk (hfresh k hle))]
def aI1(P:Program):Code→Option (Code×Oper×FuncId×Code)
 | .seq a (.seq (.region _ ops false) c)=>match ops.toList with
   | [o]=>match o.op,o.guard,o.dst with
     | .defer { callee:=.value (.func g),.. },none,none=>match P.funcs[g]? with
       |some fn=>if fn.body.isSome=true∧(fn.name== "runtime.NumGoroutine")=false then some (a,o,g,c) else none
       |none=>none
     |_,_,_=>none
   |_=>none
 |_=>none
def bEF(P:Program)(n0:Nat)(b:RC)(K:Ex→St→Prop):Ex→St→Prop
 | .normal,st=>cX P n0 b st K
 |_,_=>False
theorem aN0 {f g:FuncId} {fn:Func} {rca rcb:RC} {rvs:List RV} {ob0 ob1:List Obj} {args:List V} {res:V} {ca cb:Code} {o:Oper} (hf:P.funcs[f]? =some fn)(hb0:fn.body.isSome=true)(hd:aI1 P (fn.body.getD .skip)=some (ca,o,g,cb))(hq:Quiet P g)
 (ha0:dD P fn.ntmps ca=some (strip rca)) (hb1:dD P fn.ntmps cb=some (strip rcb))
 (hrv:fn.results.toList.mapM (iU P)=some rvs) (hn:args.length≤fn.ntmps)
 (hK:cX P ob0.length rca ⟨eL 0 args,aL 0 ob0,ob0.length⟩ (bEF P ob0.length rcb (fO P ob0.length rvs res ob1))):aQ P f ob0 args res ob1:=by
 intro U σ w cargs hR hl ha
 obtain⟨c,hb⟩:=Option.isSome_iff_exists.1 hb0
 rw [hb,Option.getD_some] at hd
 unfold aI1 at hd
 split at hd
 ·rename_i a0 id ops c0
  split at hd
  ·rename_i o' hops
   split at hd
   ·rename_i g' xs ts hop hgu hdst
    split at hd
    ·rename_i gfn hgf
     split at hd
     ·rename_i hgb
      simp only [Option.some.injEq,Prod.mk.injEq] at hd
      obtain⟨rfl,rfl,rfl,rfl⟩:=hd
      refine calls_of_wp_defers hf hb ?_
      have hz:∀k,ob0.length≤k→σ k=none:=fun k hk=>(hR.fresh k hk).2
      refine wp_seq ?_
      have first :a0.wp P (Exit.then ((Code.seq (.region id ops false) c0).wp P (bodyPostD P fn fun e w'=>∃cv σ',e=.returned cv∧aS U σ' (aL 0 ob1) w' ob1.length∧VR (Own U σ' (aL 0 ob1)) w' σ' res cv∧bL σ (aL 0 ob0) w ob0.length σ' (aL 0 ob1) w' ob1.length)) (bodyPostD P fn fun e w'=>∃cv σ',e=.returned cv∧aS U σ' (aL 0 ob1) w' ob1.length∧VR (Own U σ' (aL 0 ob1)) w' σ' res cv∧bL σ (aL 0 ob0) w ob0.length σ' (aL 0 ob1) w' ob1.length)) { tmps:=cargs++zD (fn.ntmps-cargs.size) undef,defers:= [] } w:=by
       letI:vF:=⟨[]⟩
       have hrel:cP U fn.ntmps σ ⟨eL 0 args,aL 0 ob0,ob0.length⟩ { tmps:=cargs++zD (fn.ntmps-cargs.size) undef,defers:= [] } w:=by
        refine⟨hR,by simp;omega,rfl,fun d s hm=>?_⟩
        obtain⟨i,v,hv,he⟩:=gX hm
        obtain⟨rfl,rfl⟩:=Prod.mk.inj he
        obtain⟨hi,-⟩:=List.getElem?_eq_some_iff.1 hv
        have hc:=Array.getElem?_eq_getElem (xs:=cargs) (i:=i) (by omega)
        unfold SVR
        simp only [Nat.zero_add]
        have :(cargs++zD (fn.ntmps-cargs.size) undef).getD i undef=cargs[i]:=by
         rw [Array.getD_eq_getD_getElem?,Array.getElem?_append_left (by omega),hc];rfl
        rw [this]
        exact ha i v _ hv hc
       refine oL hz rca a0 _ _ σ _ w _ ha0 hrel (fun p hp=>by obtain⟨i,v,-,rfl⟩:=gX hp;rfl) (bL.refl _ _ _ _).toB hK fun e st' σ' act' w' hk hr' hc' g''=>?_
       cases e with
       |exit id=>exact hk.elim
       |ret=>exact hk.elim
       |normal=>
        have hk:cX P ob0.length rcb st' (fO P ob0.length rvs res ob1):=hk
        show(Code.seq (.region id ops false) c0).wp P _ act' w'
        refine wp_seq (wp_region ?_)
        have hsz:ops.size=1:=by rw [←Array.length_toList,hops];rfl
        have hget:ops[0]? =some o':=by rw [←Array.getElem?_toList,hops];rfl
        rw [hsz]
        show wpOps P ops _ [0] act' w'
        have hw:Region.wanted o' (yielded ops act'.tmps)=true:=by unfold Region.wanted;rw [hgu]
        let d:Deferred:= { target:=.fn (.func g') #[],args:=xs.map act'.eval }
        have hrun:(execOp act'.eval o').run P w'=.ok (.defer d) w':=by
         simp [execOp,hop,resolve,Deferred.ofValue,Act.eval,d]
        have hdf:act'.defers=[]:=hr'.df
        simp only [wpOps,hget,hw,if_true]
        left
        unfold Oper.wp
        rw [hrun,Oper.upon_defer]
        have hact:({ act' with defers:=d::act'.defers } :Act).put o'.dst undef= { act' with defers:= [d] } :=by
         rw [hdst,hdf];rfl
        rw [hact]
        show c0.wp P _ _ w'
        have hr2: @cP _ ⟨[d]⟩ U fn.ntmps σ' st' { act' with defers:= [d] } w':= @cP.mk _ ⟨[d]⟩ _ _ _ _ _ _ hr'.rel hr'.sz rfl hr'.sl
        refine @oL _ P U fn.ntmps ⟨[d]⟩ ob0.length σ (gB σ (aL 0 ob0)) w hz rcb c0 st' _ σ' { act' with defers:= [d] } w' _ hb1 hr2 hc' g'' hk fun e2 st2 σ2 act2 w2 hk2 hr3 hc2 g3=>?_
        have leave:aKC ob0.length rvs res ob1 st2→Leaves P fn act2.tmps (fun e w'=>∃cv σ',e=.returned cv∧aS U σ' (aL 0 ob1) w' ob1.length∧VR (Own U σ' (aL 0 ob1)) w' σ' res cv∧bL σ (aL 0 ob0) w ob0.length σ' (aL 0 ob1) w' ob1.length) act2.defers .returning w2:=by
         intro hfin
         have hd2:act2.defers=[d]:= @cP.df _ ⟨[d]⟩ _ _ _ _ _ _ hr3
         rw [hd2]
         obtain⟨v,hv,hres⟩:= @aPG _ P U fn.ntmps ⟨[d]⟩ ob0.length σ σ2 ob0 ob1 rvs res fn st2 act2 w w2 hrv hz hr3 g3.toG hfin
         refine leaves_cons (by intro h;cases h) (f:=g') (args:=xs.map act'.eval) ?_ ?_
         ·have hb':¬gfn.body=none:=fun h=>by have :=hgb.1;rw [h] at this;simp at this
          have hn':¬gfn.name= "runtime.NumGoroutine" :=fun h=>by have :=hgb.2;rw [h] at this;simp at this
          simp [invoke,callFunc,hgf,hn',hb']
         ·refine CallsD.mono (hq _ w2) fun e u' w' ⟨⟨v',he⟩,hu,hw'⟩=>?_
          subst he hu hw'
          exact⟨v,hv,hres⟩
        cases e2 with
        |exit id=>exact hk2.elim
        |ret=>exact leave hk2
        |normal=>exact leave hk2
      exact first
     ·cases hd
    ·cases hd
   ·cases hd
  ·cases hd
 ·cases hd
def bAY(P:Program)(n0:Nat)(b:RC)(K:Ex→St→Prop)(e:Ex)(st:St):Prop:=
 match e with
 | .normal=>Cd P n0 b st K
 | .exit _=>False
 | .ret=>False
def aJH(P:Program)(N:Nat)(live:List Nat)(ks:List Ct)(ca cb:Code):Option (RC×RC):=
 match dD P N cb with
 |some rb=>match lC rb live,dD P N ca with
  |some rb,some ra=>match unN (aBG rb) live with
   |some l=>match lC ra l,aEK ks rb with
    |some ra,some rb=>some (ra,rb)
    |_,_=>none
   |none=>none
  |_,_=>none
 |none=>none
theorem aAV {P:Program} {N:Nat} {live:List Nat} {ks:List Ct} {ca cb:Code} {ra rb:RC} (h:aJH P N live ks ca cb=some (ra,rb)):dD P N ca=some (strip ra)∧dD P N cb=some (strip rb):=by
 unfold aJH at h
 repeat' split at h
 all_goals first | (cases h;done)|skip
 rename_i rb0 h1 _ _ rb1 ra0 h2 h3 _ l hl _ _ ra1 rb2 h4 h5
 cases h
 exact⟨by rw [tE h4,fG ca h3,h3],by rw [qG h5,tE h2,fG cb h1,h1]⟩
theorem bBM(ks:List Ct) {f g:FuncId} {fn:Func} {rca rcb:RC} {rvs:List RV} {ob0 ob1:List Obj} {args:List V} {res:V} {ca cb:Code} {o:Oper} (hf:P.funcs[f]? =some fn)(hb0:fn.body.isSome=true)(hd:aI1 P (fn.body.getD .skip)=some (ca,o,g,cb))(hq:Quiet P g)
 (hrv:fn.results.toList.mapM (iU P)=some rvs) (hres:aJH P fn.ntmps (aDD args 0 (jT rvs)) ks ca cb=some (rca,rcb)) (hn:Nat.ble args.length fn.ntmps=true)
 (hK:cG 16 0 ob0.length fun n0=>Cd P n0 rca ⟨eL 0 args,aL 0 ob0,n0⟩ (bAY P n0 rcb (fO P n0 rvs res ob1))):aQ P f ob0 args res ob1:=by
 rw [dQ] at hK
 obtain⟨h1,h2⟩:=aAV hres
 refine aN0 hf hb0 hd hq h1 h2 hrv (zA hn) ?_
 have h:=hK.h
 rw [codeF_eq] at h
 have e:bAY P ob0.length rcb (fO P ob0.length rvs res ob1)=bEF P ob0.length rcb (fO P ob0.length rvs res ob1):=by
  funext e st
  cases e with
  |normal=>show Cd P _ rcb st _=cX P _ rcb st _;rw [aME,codeF_eq]
  |exit id=>rfl
  |ret=>rfl
 rw [e] at h
 exact h
end
end Go.Sk
