/- Caches. -/
import Derived.Test.YtmhapcbjjpadnaaGreatK5c
import Derived.Recover
set_option linter.all false
open Array renaming replicate→zD
open List renaming cons_append→zF
open Nat renaming le_of_ble_eq_true→zA,eq_of_beq_eq_true→zE
open Option renaming map_eq_some_iff→zC
namespace Go.Sk
open Go Go.RowKit
variable [gL]
def aZF:List Nat->Nat->Option Nat
 | [],n=>some n
 |k::r,n=>match Nat.beq n k with
  |true=>some k
  |false=>aZF r n
theorem aT6:∀ {l:List Nat} {n m:Nat},aZF l n=some m->m=n
 | [],n,m,h=>(zsi h).symm
 |k::r,n,m,h=>by
  simp only [aZF] at h;split at h
  ·rename_i e;rw [zE e];exact(zsi h).symm
  ·exact aT6 h
def kF(n:Nat):Option Nat:=aZF [0,1,2,3,4,5,6,7,8,9,10,11,12,13,14,15,16,17,18,19,20,21,22,23,24,25,26,27,28,29,30,31,32,33,34,35,36,37,38,39,40,48,56,64,72,80,88,96,104,112,120,128,136,144,152,160,168,176,184,192,200,208,216,224,232,240,248,256,264,272,280,288,296,304,312,320,328,336,344,352,360,368,376,384,392,400,408,416,424,432,440,448,456,464,472,480] n
theorem cZ {n m:Nat} (h:kF n=some m):m=n:=aT6 h
def aLN(n:Nat):Option Nat:=match kF (n/1024),aZF [0,16,32,48,64,80,96,112,128,144,160,176,192,208,224,240,256,272,288,304,320,336,352,368,384,400,416,432,448,464,480,496,512,528,544,560,576,592,608,624,640,656,672,688,704,720,736,752,768,784,800,816,832,848,864,880,896,912,928,944,960,976,992,1008] (n%1024) with
 |some q,some r=>match Nat.beq n (1024*q+r) with
  |true=>some (1024*q+r)
  |false=>none
 |_,_=>none
theorem aLO {n m:Nat} (h:aLN n=some m):m=n:=by
 unfold aLN at h
 repeat' split at h
 all_goals first | (cases h;done)| (rename_i e;rw [zE e];exact(zsi h).symm)
def gF {α:Type} (f:α->Option α):List α->Option (List α)
 | []=>some []
 |a::r=>match f a,gF f r with
  |some a,some r=>some (a::r)
  |_,_=>none
theorem dQ {α:Type} {f:α->Option α} (e:∀a b,f a=some b->b=a):∀ {l m:List α},gF f l=some m->m=l
 | [],m,h=>(zsi h).symm
 |a::r,m,h=>by
  simp only [gF] at h;split at h
  ·rename_i z B j h2;obtain rfl:=zsi h;rw [e _ _ j,dQ e h2]
  ·cases h
def nV:V->Option V
 | .rp es cs c=>match kF es,gF (λv=>some v) cs with
   |some es,some cs=>some (.rp es cs c)
   |_,_=>none
 | .fn f cs=>some (.fn f cs)
 |v=>some v
theorem bO5 {v u:V} (h:nV v=some u):u=v:=by
 unfold nV at h;split at h
 ·split at h
  ·rename_i e h2;obtain rfl:=zsi h;rw [cZ e,dQ (λ_ _ h=>(zsi h).symm) h2]
  ·cases h
 ·exact(zsi h).symm
 ·exact(zsi h).symm
def nA:A->Option A
 | .t n=>some (.t n)
 | .c v=>match nV v with
   |some v=>some (.c v)
   |none=>none
theorem bC {a b:A} (h:nA a=some b):b=a:=by
 cases a with
 |t n=>exact(zsi h).symm
 |c v=>
  simp only [nA] at h;split at h
  ·rename_i e;rw [<-bO5 e];exact(zsi h).symm
  ·cases h
def nO:Option A->Option (Option A)
 |none=>some none
 |some a=>match nA a with
  |some a=>some (some a)
  |none=>none
theorem aJS {a b:Option A} (h:nO a=some b):b=a:=by
 cases a with
 |none=>exact(zsi h).symm
 |some v=>
  simp only [nO] at h;split at h
  ·rename_i e;rw [<-bC e];exact(zsi h).symm
  ·cases h
def nPB:Nat×Kd->Option (Nat×Kd)
 | (n,b)=>match kF n,b with
   |some n,.i=>some (n,.i)
   |some n,.b=>some (n,.b)
   |some n,.s=>some (n,.s)
   |none,_=>none
theorem bJH {p q:Nat×Kd} (h:nPB p=some q):q=p:=by
 obtain⟨n,b⟩:=p;simp only [nPB] at h;split at h
 all_goals first
  | (cases h;done)
  | (rename_i e;rw [<-cZ e];exact(zsi h).symm)
def nPA:Nat×A->Option (Nat×A)
 | (n,a)=>match kF n,nA a with
   |some n,some a=>some (n,a)
   |_,_=>none
theorem bJG {p q:Nat×A} (h:nPA p=some q):q=p:=by
 obtain⟨n,a⟩:=p;simp only [nPA] at h;split at h
 ·rename_i e h2;rw [<-cZ e,<-bC h2];exact(zsi h).symm
 ·cases h
def bJI:Nat×Nat×A->Option (Nat×Nat×A)
 | (n,m,a)=>match kF n,kF m,nA a with
   |some n,some m,some a=>some (n,m,a)
   |_,_,_=>none
theorem bDN {p q:Nat×Nat×A} (h:bJI p=some q):q=p:=by
 obtain⟨n,m,a⟩:=p;simp only [bJI] at h;split at h
 ·rename_i e h2 f;rw [<-cZ e,<-cZ h2,<-bC f];exact(zsi h).symm
 ·cases h
def nI:I->Option I
 | .mv x0=>match nA x0 with
   |some x0=>some (.mv x0)
   |_=>none
 | .pick x0 x1 x2=>match nA x0,nA x1,nA x2 with
   |some x0,some x1,some x2=>some (.pick x0 x1 x2)
   |_,_,_=>none
 | .un x0 x1=>match nA x1 with
   |some x1=>some (.un x0 x1)
   |_=>none
 | .bin x0 x1 x2=>match nA x1,nA x2 with
   |some x1,some x2=>some (.bin x0 x1 x2)
   |_,_=>none
 | .conv x0 x1=>match nA x1 with
   |some x1=>some (.conv x0 x1)
   |_=>none
 | .nilck x0=>match nA x0 with
   |some x0=>some (.nilck x0)
   |_=>none
 | .faddr x0 x1=>match kF x0,nA x1 with
   |some x0,some x1=>some (.faddr x0 x1)
   |_,_=>none
 | .fget x0 x1 x2 x3=>match kF x1,kF x2,nA x3 with
   |some x1,some x2,some x3=>some (.fget x0 x1 x2 x3)
   |_,_,_=>none
 | .ld x0 x1 x2=>match kF x1,nA x2 with
   |some x1,some x2=>some (.ld x0 x1 x2)
   |_,_=>none
 | .st x0 x1 x2=>match kF x0,nA x1,nA x2 with
   |some x0,some x1,some x2=>some (.st x0 x1 x2)
   |_,_,_=>none
 | .iaddr x0 x1 x2=>match kF x0,nA x1,nA x2 with
   |some x0,some x1,some x2=>some (.iaddr x0 x1 x2)
   |_,_,_=>none
 | .iarr x0 x1 x2 x3=>match kF x0,kF x1,nA x2,nA x3 with
   |some x0,some x1,some x2,some x3=>some (.iarr x0 x1 x2 x3)
   |_,_,_,_=>none
 | .aidx x0 x1 x2=>match kF x0,nA x1,nA x2 with
   |some x0,some x1,some x2=>some (.aidx x0 x1 x2)
   |_,_,_=>none
 | .slc x0 x1 x2 x3=>match kF x0,nA x1,nO x2,nO x3 with
   |some x0,some x1,some x2,some x3=>some (.slc x0 x1 x2 x3)
   |_,_,_,_=>none
 | .slc3 x0 x1 x2 x3 x4=>match kF x0,nA x1,nO x2,nA x3,nA x4 with
   |some x0,some x1,some x2,some x3,some x4=>some (.slc3 x0 x1 x2 x3 x4)
   |_,_,_,_,_=>none
 | .isnil x0 x1=>match nA x1 with
   |some x1=>some (.isnil x0 x1)
   |_=>none
 | .mkfn x0 x1=>match gF nA x1 with
   |some x1=>some (.mkfn x0 x1)
   |_=>none
 | .len x0=>match nA x0 with
   |some x0=>some (.len x0)
   |_=>none
 | .mx x0 x1=>match nA x0,nA x1 with
   |some x0,some x1=>some (.mx x0 x1)
   |_,_=>none
 | .mn x0 x1=>match nA x0,nA x1 with
   |some x0,some x1=>some (.mn x0 x1)
   |_,_=>none
 | .extr x0 x1=>match nA x1 with
   |some x1=>some (.extr x0 x1)
   |_=>none
 | .eqb x0 x1 x2=>match nA x1,nA x2 with
   |some x1,some x2=>some (.eqb x0 x1 x2)
   |_,_=>none
 | .eqs x0 x1 x2 x3=>match gF nPB x1,nA x2,nA x3 with
   |some x1,some x2,some x3=>some (.eqs x0 x1 x2 x3)
   |_,_,_=>none
 | .slen x0=>match nA x0 with
   |some x0=>some (.slen x0)
   |_=>none
 | .sidx x0 x1=>match nA x0,nA x1 with
   |some x0,some x1=>some (.sidx x0 x1)
   |_,_=>none
 | .ssl x0 x1 x2=>match nA x0,nO x1,nO x2 with
   |some x0,some x1,some x2=>some (.ssl x0 x1 x2)
   |_,_,_=>none
 | .scat x0 x1=>match nA x0,nA x1 with
   |some x0,some x1=>some (.scat x0 x1)
   |_,_=>none
 | .sqs x0 x1 x2=>match nA x1,nA x2 with
   |some x1,some x2=>some (.sqs x0 x1 x2)
   |_,_=>none
 | .b2s x0=>match nA x0 with
   |some x0=>some (.b2s x0)
   |_=>none
 | .s2b x0=>match nA x0 with
   |some x0=>some (.s2b x0)
   |_=>none
 | .aslc x0 x1 x2=>match kF x0,nA x1,nO x2 with
   |some x0,some x1,some x2=>some (.aslc x0 x1 x2)
   |_,_,_=>none
 | .cpys x0 x1=>match nA x0,nA x1 with
   |some x0,some x1=>some (.cpys x0 x1)
   |_,_=>none
 | .build x0 x1=>match gF (λv=>some v) x0,gF bJI x1 with
   |some x0,some x1=>some (.build x0 x1)
   |_,_=>none
 | .alloc x0=>match gF (λv=>some v) x0 with
   |some x0=>some (.alloc x0)
   |_=>none
 | .box x0=>match nA x0 with
   |some x0=>some (.box x0)
   |_=>none
 | .bslice x0 x1 x2 x3=>match kF x0,gF (λv=>some v) x1,gF nPA x3 with
   |some x0,some x1,some x3=>some (.bslice x0 x1 x2 x3)
   |_,_,_=>none
 | .mk x0 x1 x2 x3 x4=>match kF x0,kF x1,gF (λv=>some v) x2,nA x3,nA x4 with
   |some x0,some x1,some x2,some x3,some x4=>some (.mk x0 x1 x2 x3 x4)
   |_,_,_,_,_=>none
 | .app x0 x1 x2 x3=>match kF x0,kF x1,nA x2,nA x3 with
   |some x0,some x1,some x2,some x3=>some (.app x0 x1 x2 x3)
   |_,_,_,_=>none
 | .cpy x0 x1 x2=>match kF x0,nA x1,nA x2 with
   |some x0,some x1,some x2=>some (.cpy x0 x1 x2)
   |_,_,_=>none
 | .mkmap ks=>match kF ks with
   |some ks=>some (.mkmap ks)
   |none=>none
 | .mget x0 x1 x2 x3=>match nA x2,nA x3 with
   |some x2,some x3=>some (.mget x0 x1 x2 x3)
   |_,_=>none
 | .mput x0 x1 x2=>match nA x0,nA x1,nA x2 with
   |some x0,some x1,some x2=>some (.mput x0 x1 x2)
   |_,_,_=>none
 | .mgetp x0 x1 x2 x3=>match nA x2,nA x3 with
   |some x2,some x3=>some (.mgetp x0 x1 x2 x3)
   |_,_=>none
 | .mputp x0 x1 x2=>match nA x0,nA x1,nA x2 with
   |some x0,some x1,some x2=>some (.mputp x0 x1 x2)
   |_,_,_=>none
 | .clr x0 x1 x2=>match kF x0,gF (λv=>some v) x1,nA x2 with
   |some x0,some x1,some x2=>some (.clr x0 x1 x2)
   |_,_,_=>none
 | .bad=>some .bad
 | .call x0 x1=>match gF nA x1 with
   |some x1=>some (.call x0 x1)
   |_=>none
 | .vcall x0 x1=>match nA x0,gF nA x1 with
   |some x0,some x1=>some (.vcall x0 x1)
   |_,_=>none
theorem bGK {i j:I} (h:nI i=some j):j=i:=by
 cases i
 ·simp only [nI] at h;split at h
  ·rename_i e;obtain rfl:=zsi h;rw [bC e]
  ·cases h
 ·simp only [nI] at h;split at h
  ·rename_i e f h2;obtain rfl:=zsi h;rw [bC e,bC f,bC h2]
  ·cases h
 ·simp only [nI] at h;split at h
  ·rename_i e;obtain rfl:=zsi h;rw [bC e]
  ·cases h
 ·simp only [nI] at h;split at h
  ·rename_i e f;obtain rfl:=zsi h;rw [bC e,bC f]
  ·cases h
 ·simp only [nI] at h;split at h
  ·rename_i e;obtain rfl:=zsi h;rw [bC e]
  ·cases h
 ·simp only [nI] at h;split at h
  ·rename_i e;obtain rfl:=zsi h;rw [bC e]
  ·cases h
 ·simp only [nI] at h;split at h
  ·rename_i e f;obtain rfl:=zsi h;rw [cZ e,bC f]
  ·cases h
 ·simp only [nI] at h;split at h
  ·rename_i e f h2;obtain rfl:=zsi h;rw [cZ e,cZ f,bC h2]
  ·cases h
 ·simp only [nI] at h;split at h
  ·rename_i e f;obtain rfl:=zsi h;rw [cZ e,bC f]
  ·cases h
 ·simp only [nI] at h;split at h
  ·rename_i e f h2;obtain rfl:=zsi h;rw [cZ e,bC f,bC h2]
  ·cases h
 ·simp only [nI] at h;split at h
  ·rename_i e f h2;obtain rfl:=zsi h;rw [cZ e,bC f,bC h2]
  ·cases h
 ·simp only [nI] at h;split at h
  ·rename_i e f h2 m;obtain rfl:=zsi h;rw [cZ e,cZ f,bC h2,bC m]
  ·cases h
 ·simp only [nI] at h;split at h
  ·rename_i e f h2;obtain rfl:=zsi h;rw [cZ e,bC f,bC h2]
  ·cases h
 ·simp only [nI] at h;split at h
  ·rename_i e f h2 m;obtain rfl:=zsi h;rw [cZ e,bC f,aJS h2,aJS m]
  ·cases h
 ·simp only [nI] at h;split at h
  ·rename_i e f h2 m h4;obtain rfl:=zsi h;rw [cZ e,bC f,aJS h2,bC m,bC h4]
  ·cases h
 ·simp only [nI] at h;split at h
  ·rename_i e;obtain rfl:=zsi h;rw [bC e]
  ·cases h
 ·simp only [nI] at h;split at h
  ·rename_i e;obtain rfl:=zsi h;rw [(dQ (λ_ _ h=>bC h) e)]
  ·cases h
 ·simp only [nI] at h;split at h
  ·rename_i e;obtain rfl:=zsi h;rw [bC e]
  ·cases h
 ·simp only [nI] at h;split at h
  ·rename_i e f;obtain rfl:=zsi h;rw [bC e,bC f]
  ·cases h
 ·simp only [nI] at h;split at h
  ·rename_i e f;obtain rfl:=zsi h;rw [bC e,bC f]
  ·cases h
 ·simp only [nI] at h;split at h
  ·rename_i e;obtain rfl:=zsi h;rw [bC e]
  ·cases h
 ·simp only [nI] at h;split at h
  ·rename_i e f;obtain rfl:=zsi h;rw [bC e,bC f]
  ·cases h
 ·simp only [nI] at h;split at h
  ·rename_i e f h2;obtain rfl:=zsi h;rw [(dQ (λ_ _ h=>bJH h) e),bC f,bC h2]
  ·cases h
 ·simp only [nI] at h;split at h
  ·rename_i e;obtain rfl:=zsi h;rw [bC e]
  ·cases h
 ·simp only [nI] at h;split at h
  ·rename_i e f;obtain rfl:=zsi h;rw [bC e,bC f]
  ·cases h
 ·simp only [nI] at h;split at h
  ·rename_i e f h2;obtain rfl:=zsi h;rw [bC e,aJS f,aJS h2]
  ·cases h
 ·simp only [nI] at h;split at h
  ·rename_i e f;obtain rfl:=zsi h;rw [bC e,bC f]
  ·cases h
 ·simp only [nI] at h;split at h
  ·rename_i e f;obtain rfl:=zsi h;rw [bC e,bC f]
  ·cases h
 ·simp only [nI] at h;split at h
  ·rename_i e;obtain rfl:=zsi h;rw [bC e]
  ·cases h
 ·simp only [nI] at h;split at h
  ·rename_i e;obtain rfl:=zsi h;rw [bC e]
  ·cases h
 ·simp only [nI] at h;split at h
  ·rename_i e f h2;obtain rfl:=zsi h;rw [cZ e,bC f,aJS h2]
  ·cases h
 ·simp only [nI] at h;split at h
  ·rename_i e f;obtain rfl:=zsi h;rw [bC e,bC f]
  ·cases h
 ·simp only [nI] at h;split at h
  ·rename_i e f;obtain rfl:=zsi h;rw [(dQ (λ_ _ h=>(zsi h).symm) e),(dQ (λ_ _ h=>bDN h) f)]
  ·cases h
 ·simp only [nI] at h;split at h
  ·rename_i e;obtain rfl:=zsi h;rw [(dQ (λ_ _ h=>(zsi h).symm) e)]
  ·cases h
 ·simp only [nI] at h;split at h
  ·rename_i e;obtain rfl:=zsi h;rw [bC e]
  ·cases h
 ·simp only [nI] at h;split at h
  ·rename_i e f h2;obtain rfl:=zsi h;rw [cZ e,(dQ (λ_ _ h=>(zsi h).symm) f),(dQ (λ_ _ h=>bJG h) h2)]
  ·cases h
 ·simp only [nI] at h;split at h
  ·rename_i e f h2 m h4;obtain rfl:=zsi h;rw [cZ e,cZ f,(dQ (λ_ _ h=>(zsi h).symm) h2),bC m,bC h4]
  ·cases h
 ·simp only [nI] at h;split at h
  ·rename_i e f h2 m;obtain rfl:=zsi h;rw [cZ e,cZ f,bC h2,bC m]
  ·cases h
 ·simp only [nI] at h;split at h
  ·rename_i e f h2;obtain rfl:=zsi h;rw [cZ e,bC f,bC h2]
  ·cases h
 ·simp only [nI] at h;split at h
  ·rename_i e;obtain rfl:=zsi h;rw [cZ e]
  ·cases h
 ·simp only [nI] at h;split at h
  ·rename_i e f;obtain rfl:=zsi h;rw [bC e,bC f]
  ·cases h
 ·simp only [nI] at h;split at h
  ·rename_i e f h2;obtain rfl:=zsi h;rw [bC e,bC f,bC h2]
  ·cases h
 ·simp only [nI] at h;split at h
  ·rename_i e f;obtain rfl:=zsi h;rw [bC e,bC f]
  ·cases h
 ·simp only [nI] at h;split at h
  ·rename_i e f h2;obtain rfl:=zsi h;rw [bC e,bC f,bC h2]
  ·cases h
 ·simp only [nI] at h;split at h
  ·rename_i e f h2;obtain rfl:=zsi h;rw [cZ e,(dQ (λ_ _ h=>(zsi h).symm) f),bC h2]
  ·cases h
 ·simp only [nI] at h;split at h
  ·rename_i e;obtain rfl:=zsi h;rw [(dQ (λ_ _ h=>bC h) e)]
  ·cases h
 ·simp only [nI] at h;split at h
  ·rename_i e f;obtain rfl:=zsi h;rw [bC e,(dQ (λ_ _ h=>bC h) f)]
  ·cases h
 ·exact(zsi h).symm
def fW:A->List Nat
 | .t n=> [n]
 | .c _=> []
def usO:Option A->List Nat
 |some a=>fW a
 |none=> []
def usL:List A->List Nat
 | []=> []
 |a::r=>fW a++usL r
def usR:List (Nat×A)->List Nat
 | []=> []
 | (_,a)::r=>fW a++usR r
def usQ:List (Nat×Nat×A)->List Nat
 | []=> []
 | (_,_,a)::r=>fW a++usQ r
def usI:I->List Nat
 | .mv x0=>fW x0
 | .pick x0 x1 x2=>fW x0++fW x1++fW x2
 | .un _ x1=>fW x1
 | .bin _ x1 x2=>fW x1++fW x2
 | .conv _ x1=>fW x1
 | .nilck x0=>fW x0
 | .faddr _ x1=>fW x1
 | .fget _ _ _ x3=>fW x3
 | .ld _ _ x2=>fW x2
 | .st _ x1 x2=>fW x1++fW x2
 | .iaddr _ x1 x2=>fW x1++fW x2
 | .iarr _ _ x2 x3=>fW x2++fW x3
 | .aidx _ x1 x2=>fW x1++fW x2
 | .slc _ x1 x2 x3=>fW x1++usO x2++usO x3
 | .slc3 _ x1 x2 x3 x4=>fW x1++usO x2++fW x3++fW x4
 | .isnil _ x1=>fW x1
 | .mkfn _ x1=>usL x1
 | .len x0=>fW x0
 | .mx x0 x1=>fW x0++fW x1
 | .mn x0 x1=>fW x0++fW x1
 | .extr _ x1=>fW x1
 | .eqb _ x1 x2=>fW x1++fW x2
 | .eqs _ _ x2 x3=>fW x2++fW x3
 | .slen x0=>fW x0
 | .sidx x0 x1=>fW x0++fW x1
 | .ssl x0 x1 x2=>fW x0++usO x1++usO x2
 | .scat x0 x1=>fW x0++fW x1
 | .sqs _ x1 x2=>fW x1++fW x2
 | .b2s x0=>fW x0
 | .s2b x0=>fW x0
 | .aslc _ x1 x2=>fW x1++usO x2
 | .cpys x0 x1=>fW x0++fW x1
 | .build _ x1=>usQ x1
 | .alloc _=> []
 | .box x0=>fW x0
 | .bslice _ _ _ x3=>usR x3
 | .mk _ _ _ x3 x4=>fW x3++fW x4
 | .app _ _ x2 x3=>fW x2++fW x3
 | .cpy _ x1 x2=>fW x1++fW x2
 | .mkmap _=> []
 | .mget _ _ x2 x3=>fW x2++fW x3
 | .mgetp _ _ x2 x3=>fW x2++fW x3
 | .mput x0 x1 x2=>fW x0++fW x1++fW x2
 | .mputp x0 x1 x2=>fW x0++fW x1++fW x2
 | .clr _ _ x2=>fW x2
 | .call _ x1=>usL x1
 | .vcall x0 x1=>fW x0++usL x1
 | .bad=> []
def inN(n:Nat):List Nat->Bool
 | []=>false
 |k::r=>match Nat.beq n k with
  |true=>true
  |false=>inN n r
def unN:List Nat->List Nat->Option (List Nat)
 | [],l=>some l
 |n::r,l=>match inN n l with
  |true=>unN r l
  |false=>unN r (n::l)
def bDK:List Nat->List Nat->Option (List Nat)
 | [],_=>some []
 |n::r,l=>match inN n l with
  |true=>bDK r l
  |false=>match bDK r l with
   |some q=>some (n::q)
   |none=>none
def nG:Option (Nat×Bool)->Option (Option (Nat×Bool))
 |none=>some none
 |some (n,true)=>some (some (n,true))
 |some (n,false)=>some (some (n,false))
theorem bGJ {g e:Option (Nat×Bool)} (h:nG g=some e):e=g:=by unfold nG at h;split at h <;> exact(zsi h).symm
def aIU:iZ->Option iZ
 | ⟨none,g,i⟩=>match nG g,nI i with
   |some g,some i=>some ⟨none,g,i⟩
   |_,_=>none
 | ⟨some d,g,i⟩=>match nG g,nI i with
   |some g,some i=>some ⟨some d,g,i⟩
   |_,_=>none
theorem aLM {a b:iZ} (h:aIU a=some b):b=a:=by
 obtain⟨d,g,i⟩:=a
 cases d with
 |none=>
  simp only [aIU] at h;split at h
  ·rename_i e h2;rw [<-bGJ e,<-bGK h2];exact(zsi h).symm
  ·cases h
 |some d=>
  simp only [aIU] at h;split at h
  ·rename_i e h2;rw [<-bGJ e,<-bGK h2];exact(zsi h).symm
  ·cases h
def usG:Option (Nat×Bool)->List Nat
 |some (n,_)=> [n]
 |none=> []
def aCH:List iZ->List Nat
 | []=> []
 | ⟨_,g,i⟩::r=>usG g++(usI i++aCH r)
def pU:List iZ->List Nat
 | []=> []
 | ⟨some d,_,_⟩::r=>d::pU r
 | ⟨none,_,_⟩::r=>pU r
def aFE:RC->List Nat
 | .skip=> []
 | .reg l _=>aCH l
 | .dreg _ _ l _ _ _=>aCH l
 | .seq a b=>aFE a++aFE b
 | .cut a b=>aFE a++aFE b
 | .regc a b _=>aCH a++aCH b
 | .regv a _ b _=>aCH a++aCH b
 | .cond c a b=>fW c++(aFE a++aFE b)
 | .block _ c=>aFE c
 | .loop c=>aFE c
 | .uloop c=>aFE c
 | .exit _=> []
 | .ret=> []
 | .bad=> []
def oL:RC->List Nat->Option RC
 | .reg l _,live=>match gF aIU l with
   |some l=>match unN (pU l++aCH l) [] with
    |some ds=>match bDK ds live with
     |some k=>some (.reg l k)
     |none=>none
    |none=>none
   |none=>none
 | .dreg b n l _ an ms,live=>match gF aIU l,aLN b,aLN n,gF (gF λv=>kF v) an,gF aLN ms with
   |some l,some b,some n,some an,some ms=>match unN (pU l++aCH l) [] with
    |some ds=>match bDK ds live with
     |some k=>some (.dreg b n l k an ms)
     |none=>none
    |none=>none
   |_,_,_,_,_=>none
 | .seq a b,live=>match unN (aFE b) live with
   |some l=>match oL a l,oL b live with
    |some a,some b=>some (.seq a b)
    |_,_=>none
   |none=>none
 | .cond c a b,live=>match nA c,oL a live,oL b live with
   |some c,some a,some b=>some (.cond c a b)
   |_,_,_=>none
 | .block id c,live=>match oL c live with
   |some c=>some (.block id c)
   |none=>none
 | .loop c,live=>match unN (aFE c) live with
   |some l=>match oL c l with
    |some c=>some (.loop c)
    |none=>none
   |none=>none
 | .exit id,_=>some (.exit id)
 | .ret,_=>some .ret
 | .skip,_=>some .skip
 | .bad,_=>some .bad
 |_,_=>none
theorem aAS:∀ {rc:RC} {j:List Nat} {m:RC},oL rc j=some m->strip m=strip rc:=by
 intro rc
 induction rc with
 |skip=>intro j m h;obtain rfl:=zsi h;rfl
 |exit id=>intro j m h;obtain rfl:=zsi h;rfl
 |ret=>intro j m h;obtain rfl:=zsi h;rfl
 |bad=>intro j m h;obtain rfl:=zsi h;rfl
 |reg l k=>
  intro j m h;simp only [oL] at h
  repeat' split at h
  all_goals first | (cases h;done)|skip
  cases h
  have e:=dQ (f:=aIU) (λ_ _ h=>aLM h) ‹gF aIU l=some _›;rw [e];rfl
 |dreg b n l k D J=>
  intro j m h;simp only [oL] at h
  repeat' split at h
  all_goals first | (cases h;done)|skip
  cases h
  have e1:=dQ (f:=aIU) (λ_ _ h=>aLM h) ‹gF aIU l=some _›;have E:=aLO ‹aLN b=some _›;have F:=aLO ‹aLN n=some _›;have G:=dQ (f:=gF λv=>kF v) (λ_ _ h=>dQ (f:=λv=>kF v) (λ_ _ h=>cZ h) h) ‹gF (gF λv=>kF v) D=some _›;have H:=dQ (f:=aLN) (λ_ _ h=>aLO h) ‹gF aLN J=some _›;rw [e1,E,F,G,H];rfl
 |seq a b z B=>
  intro j m h;simp only [oL] at h
  repeat' split at h
  all_goals first | (cases h;done)|skip
  cases h
  simp only [strip,z ‹oL a _=some _›,B ‹oL b _=some _›]
 |cond c a b z B=>
  intro j m h;simp only [oL] at h
  repeat' split at h
  all_goals first | (cases h;done)|skip
  cases h
  simp only [strip,bC ‹nA c=some _›,z ‹oL a _=some _›,B ‹oL b _=some _›]
 |block id c C=>
  intro j m h;simp only [oL] at h;split at h
  ·cases h;simp only [strip,C ‹oL c _=some _›]
  ·cases h
 |loop c C=>
  intro j m h;simp only [oL] at h
  repeat' split at h
  all_goals first | (cases h;done)|skip
  cases h
  simp only [strip,C ‹oL c _=some _›]
 |_=>intro j m h;cases h
theorem gT {P:Program} {N:Nat} :∀(c:Code) {rc:RC},dK P N c=some rc->strip rc=rc
 | .skip,rc,h=>by simp only [dK] at h;cases h;rfl
 | .region id ops false,rc,h=>by
   simp only [dK] at h
   repeat' split at h
   all_goals first | (cases h;rfl)|cases h
 | .region id ops true,rc,h=>by
   simp only [dK] at h
   repeat' split at h
   all_goals first | (cases h;rfl)|cases h
 | .seq a b,rc,h=>by
   simp only [dK] at h;split at h
   ·rename_i e h2;cases h;simp only [strip,gT a e,gT b h2]
   ·cases h
 | .cond c a b,rc,h=>by
   simp only [dK] at h;split at h
   ·rename_i f e h2;cases h;simp only [strip,gT a e,gT b h2]
   ·cases h
 | .block id c,rc,h=>by simp only [dK,zC] at h;obtain⟨b,e,rfl⟩:=h;simp only [strip,gT c e]
 | .loop c,rc,h=>by simp only [dK,zC] at h;obtain⟨b,e,rfl⟩:=h;simp only [strip,gT c e]
 | .exit id,rc,h=>by simp only [dK] at h;cases h;rfl
 | .ret,rc,h=>by simp only [dK] at h;cases h;rfl
 | .rangeFunc ..,rc,h=>by simp only [dK] at h;cases h;rfl
 | .scope _,rc,h=>by simp only [dK] at h;cases h;rfl
 | .label _,rc,h=>by simp only [dK] at h;cases h;rfl
 | .goto _,rc,h=>by simp only [dK] at h;cases h;rfl
 | .refuse _,rc,h=>by simp only [dK] at h;cases h;rfl
inductive Ct where
 |c (n:Nat)
 |r (n:Nat)
 |s (n:Nat)
 |v (n:Nat)
 |u (n:Nat)
 |p (n:Nat)
def aUU(n:Nat):List iZ->Bool
 | []=>false
 | ⟨some d,_,_⟩::r=>match Nat.beq d n with
   |true=>true
   |false=>aUU n r
 | ⟨none,_,_⟩::r=>aUU n r
def qM:Ct->RC->Bool
 | .c n,.cond (.t m) a b=>match Nat.beq m n with
   |true=>true
   |false=>qM (.c n) a||qM (.c n) b
 |k,.cond _ a b=>qM k a||qM k b
 | .r n,.reg l _=>aUU n l
 | .r n,.dreg _ _ l _ _ _=>aUU n l
 |k,.seq a b=>qM k a||qM k b
 |k,.cut a b=>qM k a||qM k b
 |k,.block _ a=>qM k a
 |k,.loop a=>qM k a
 |k,.uloop a=>qM k a
 |_,_=>false
def inM(k:Ct):RC->Bool
 | .seq a b=>qM k a||inM k b
 | .cut a b=>qM k a||inM k b
 | .cond _ a b=>inM k a||inM k b
 | .block _ a=>inM k a
 | .loop a=>inM k a
 | .uloop a=>inM k a
 |_=>false
def oP(n:Nat):List iZ->Option (List iZ×List iZ)
 | []=>none
 | ⟨some d,g,i⟩::r=>match Nat.beq d n with
   |true=>some ([⟨some d,g,i⟩],r)
   |false=>match oP n r with
    |some (a,b)=>some (⟨some d,g,i⟩::a,b)
    |none=>none
 | ⟨none,g,i⟩::r=>match oP n r with
   |some (a,b)=>some (⟨none,g,i⟩::a,b)
   |none=>none
theorem uV {n:Nat} :∀ {l a b:List iZ},oP n l=some (a,b)->a++b=l
 | [],a,b,h=>by cases h
 | ⟨some d,g,i⟩::r,a,b,h=>by
   simp only [oP] at h
   repeat' split at h
   all_goals first | (rename_i e;cases h;simp only [zF,uV e])| (cases h;rfl)|cases h
 | ⟨none,g,i⟩::r,a,b,h=>by
   simp only [oP] at h
   repeat' split at h
   all_goals first | (rename_i e;cases h;simp only [zF,uV e])|cases h
def inP(n:Nat):RC->Bool
 | .seq a b=>(qM (.r n) a&&inM (.r n) a)||(inP n a||inP n b)
 | .cut a b=>(qM (.r n) a&&inM (.r n) a)||(inP n a||inP n b)
 | .cond _ a b=>inP n a||inP n b
 | .block _ a=>inP n a
 | .loop a=>inP n a
 | .uloop a=>inP n a
 |_=>false
def bNT(k:Ct)(a:RC):Bool:=
 match k with
 | .p n=>qM (.r n) a&&(inM (.r n) a&& !inP n a)
 |k=>qM k a&& !inM k a
def aEB(n:Nat):RC->Bool
 | .seq a b=>aEB n a||aEB n b
 | .cut a b=>aEB n a||aEB n b
 | .cond _ a b=>aEB n a||aEB n b
 | .block _ a=>aEB n a
 | .loop a=>qM (.r n) a
 | .uloop a=>qM (.r n) a
 |_=>false
def rS(k:Ct):RC->Option RC
 | .reg l kill=>match k with
   | .s n=>match oP n l with
     |some (a,b)=>some (.regc a b kill)
     |none=>some (.reg l kill)
   | .v n=>match oP n l with
     |some (a,b)=>some (.regv a n b kill)
     |none=>some (.reg l kill)
   |_=>some (.reg l kill)
 | .seq a b=>match bNT k a with
   |true=>some (.cut a b)
   |false=>match rS k a,rS k b with
    |some a,some b=>some (.seq a b)
    |_,_=>none
 | .cut a b=>match rS k a,rS k b with
   |some a,some b=>some (.cut a b)
   |_,_=>none
 | .cond c a b=>match rS k a,rS k b with
   |some a,some b=>some (.cond c a b)
   |_,_=>none
 | .block id a=>match rS k a with
   |some a=>some (.block id a)
   |none=>none
 | .loop a=>match k,rS k a with
   | .u n,some b=>match qM (.r n) a,aEB n a with
     |true,false=>some (.uloop b)
     |_,_=>some (.loop b)
   |_,some a=>some (.loop a)
   |_,none=>none
 | .uloop a=>match rS k a with
   |some a=>some (.uloop a)
   |none=>none
 |rc=>some rc
theorem aQP {k:Ct} :∀ {rc e:RC},rS k rc=some e->strip e=strip rc:=by
 intro rc
 induction rc with
 |reg l B=>
  intro e h;simp only [rS] at h
  repeat' split at h
  all_goals first | (rename_i f;cases h;simp only [strip,uV f];done)| (cases h;rfl)|cases h
 |seq a b j m=>
  intro e h;simp only [rS] at h
  repeat' split at h
  all_goals first | (cases h;rfl;done)| (rename_i f h2;cases h;simp only [strip,j f,m h2];done)|cases h
 |cut a b j m=>
  intro e h;simp only [rS] at h
  repeat' split at h
  all_goals first | (rename_i f h2;cases h;simp only [strip,j f,m h2];done)|cases h
 |cond c a b j m=>
  intro e h;simp only [rS] at h
  repeat' split at h
  all_goals first | (rename_i f h2;cases h;simp only [strip,j f,m h2];done)|cases h
 |block id c z=>
  intro e h;simp only [rS] at h;split at h
  ·rename_i f;cases h;simp only [strip,z f]
  ·cases h
 |loop c z=>
  intro e h;simp only [rS] at h
  repeat' split at h
  all_goals first | (cases h;simp only [strip,z ‹rS _ c=some _›];done)|cases h
 |uloop c z=>
  intro e h;simp only [rS] at h;split at h
  ·rename_i f;cases h;simp only [strip,z f]
  ·cases h
 |_=>intro e h;cases h;rfl
def aJ9:List Ct->RC->Option RC
 | [],rc=>some rc
 |k::r,rc=>match rS k rc with
  |some rc=>aJ9 r rc
  |none=>none
theorem tQ:∀ {j:List Ct} {rc e:RC},aJ9 j rc=some e->strip e=strip rc
 | [],rc,e,h=>by cases h;rfl
 |k::r,rc,e,h=>by
  simp only [aJ9] at h;split at h
  ·rename_i f;rw [tQ h,aQP f]
  ·cases h
def aI9(P:Program)(N:Nat)(live:List Nat)(ks:List Ct)(c:Code):Option RC:=
 match dK P N c with
 |some rc=>match oL rc live with
  |some rc=>aJ9 ks rc
  |none=>none
 |none=>none
theorem oN {P:Program} {N:Nat} {e:List Nat} {m:List Ct} {c:Code} {rc:RC} (h:aI9 P N e m c=some rc):dK P N c=some (strip rc):=by
 unfold aI9 at h;split at h
 ·rename_i z f;split at h
  ·rename_i B j;rw [tQ h,aAS j,gT c f,f]
  ·cases h
 ·cases h
def lJ:List RV->List Nat
 | []=> []
 | .tmp t::r=>t::lJ r
 | .cell t _ _::r=>t::lJ r
def aFB:List V->Nat->List Nat->List Nat
 | [],_,l=>l
 |_::r,k,l=>k::aFB r (k+1) l
theorem eT(F:List Ct) {P:Program} {f:FuncId} {fn:Func} {rc:RC} {rvs:List RV} {ob0 j:List Obj} {args:List V} {m:V} (D:P.funcs[f]? =some fn)(z:fn.body.isSome=true)
 (B:fn.results.toList.mapM (jR P)=some rvs) (e:aI9 P fn.ntmps (aFB args 0 (lJ rvs)) F (fn.body.getD .skip)=some rc) (E:Nat.ble args.length fn.ntmps=true)
 (C:cL 16 0 ob0.length λn0=>Cd P n0 rc ⟨dV 0 args,aI 0 ob0,n0⟩ (gR P n0 rvs m j)):aM P f ob0 args m j:=
 bJ3 D z (oN e) B (zA E) C
theorem aFQ(F:List Ct) {P:Program} {f:FuncId} {fn:Func} {rc:RC} {rvs:List RV} {ob0 j:List Obj} {args:List V} {m:V} (D:P.funcs[f]? =some fn)(z:fn.body.isSome=true)
 (B:fn.results.toList.mapM (jR P)=some rvs) (e:aI9 P fn.ntmps (aFB args 0 (lJ rvs)) F (fn.body.getD .skip)=some rc) (E:Nat.ble args.length fn.ntmps=true)
 (C:cL 16 0 ob0.length λnx=>Cd P 0 rc ⟨dV 0 args,aI 0 ob0,nx⟩ (gR P 0 rvs m j)):FnM P f ob0 args m j:=
 aYJ D z (oN e) B (zA E) (by rw [dS] at C;rw [<-tO];exact C.h)
def CdB(P:Program)(n0:Nat):RC->St->(Ex->St->Prop)->Prop
 | .skip,st,K=>K .normal st
 | .exit id,st,K=>K (.exit id) st
 | .ret,st,K=>K .ret st
 | .bad,_,_=>False
 | .reg l kill,st,K=>aFA P l st λ| ⟨sl0,so0,nx0⟩=>fE kill sl0 λsl=>K .normal ⟨sl,so0,nx0⟩
 | .dreg b0 n l kill an ms,st,K=>match Nat.ble st.nx b0 with
   |true=>nY P l ms ⟨st.sl,st.so,n⟩ λ|recs,⟨sl0,so0,nx0⟩=>nX recs an 0=true/\fE kill (look sl0 (qU sl0)) λsl=>K .normal ⟨sl,so0,nx0⟩
   |false=>nY P l (shM st.nx ms) ⟨st.sl,st.so,n+st.nx⟩ λ|recs,⟨sl0,so0,nx0⟩=>nX recs an 0=true/\fE kill (look sl0 (qU sl0)) λsl=>K .normal ⟨sl,so0,nx0⟩
 | .seq a b,st,K=>Cd P n0 a st (bNC P n0 b K)
 | .cut a b,st,K=>∃(α:Type) (I:α->Prop) (F:α->St),Cd P n0 a st (bLR n0 I F K)/\∀x,I x->Cd P n0 b (F x) K
 | .regc a b kill,st,K=>gD P n0 (.regc a b kill) st K
 | .regv a d b kill,st,K=>gD P n0 (.regv a d b kill) st K
 | .cond c a b,st,K=>match bR st.sl [] c with
   | .bool x=>cq x (Cd P n0 a st K) (Cd P n0 b st K)
   |_=>False
 | .block id c,st,K=>Cd P n0 c st (aXE id K)
 | .loop c,st,K=>∃(α:Type) (I:α->Prop) (F:α->St) (m:α->Nat),(∃a,I a/\View n0 st (F a))/\∀a,I a->Cd P n0 c (F a) (aS7 n0 I F m a K)
 | .uloop c,st,K=>∃n,uF (Cd P n0 c) K n st
theorem Cd.go {P:Program} {n0:Nat} {rc:RC} {st:St} {K:Ex->St->Prop} (h:CdB P n0 rc st K):Cd P n0 rc st K:=by
 cases rc with
 |skip=>exact Cd.skip h
 |exit id=>exact Cd.exit h
 |ret=>exact Cd.ret h
 |bad=>exact h.elim
 |reg l k=>exact Cd.reg h
 |dreg b n l k e f=>exact⟨h⟩
 |seq a b=>exact Cd.seq h
 |cut a b=>exact Cd.cut h
 |regc a b k=>exact⟨h⟩
 |regv a d b k=>exact⟨h⟩
 |cond c a b=>exact Cd.cond h
 |block id c=>exact Cd.block h
 |loop c=>exact Cd.loop h
 |uloop c=>exact Cd.uloop h
end Go.Sk
namespace Go.Sk
open Go Go.RowKit
variable [gL]
section
variable {P:Program} {U:Nat->Prop} {N:Nat}
def Quiet(P:Program)(g:FuncId):Prop:=∀(args:Array Value) (w:World),CallsD P g args .returning w λe u' w'=>(∃v,e=.returned v)/\u'=.returning/\w'=w
theorem aVQ [qE] {n0:Nat} {σ0 σ':Sg} {ob0 e:List Obj} {rvs:List RV} {J:V} {fn:Func} {D:St} {f:Act} {w w':World} (M:fn.results.toList.mapM (jR P)=some rvs)(C:∀k,ob0.length<=k->σ0 k=none)
 (F:bJ U N σ' D f w') (K:bP σ0 (aI 0 ob0) w ob0.length σ' D.so w' D.nx) (G:aMY ob0.length rvs J e D):
 ∃v,(results fn f.tmps).run P w'=.ok v w'/\(∃cv E,Ending.returned v=.returned cv/\aV U E (aI 0 e) w' e.length/\VR (Own U E (aI 0 e)) w' E J cv/\bP σ0 (aI 0 ob0) w ob0.length E (aI 0 e) w' e.length):=by
 obtain⟨vs,m,⟨ids,q1,O,Q,R,q5⟩,z,B,H⟩:=rI F _ rvs M _ G;have q2:=oJ O;have q3:∀j,j<ob0.length->ids[j]? =some (some j):=λj hj=>by have :=mK _ 0 ids Q j hj;rwa [Nat.zero_add] at this
 have q4:=zA R;refine⟨(if h:m.toArray.size=1 then m.toArray[0] else .tuple m.toArray),?_,_,rJ σ' ids e,rfl,F.rel.view q1 q2,?_,⟨K.keep,λb hb hO=>?_,λk T=>?_,q4⟩⟩
 ·have he:results fn f.tmps=(do let vs<-fn.results.mapM (aCC f.tmps);pure (if h:vs.size=1 then vs[0] else .tuple vs)):=by
   unfold results
   congr 1
  rw [he,Sem.run_bind,Array.mapM_eq_mapM_toList];simp only [Sem.run_map,H,Result.andThen_ok,Sem.run_pure]
 ·refine aIL F.rel q1 q5 ?_
  match vs,m,z,B with
  | [v],[cv],_,B=>exact B 0 v cv rfl rfl
  | [],[],_,_=>exact .tup rfl (by simp)
  |v1::v2::vs,W::Y::m,z,B=>
   have :¬((W::Y::m).toArray.size=1):=by simp
   rw [dif_neg this];exact .tup (by simpa using z.symm) λi v c hv hc=>B i v c hv (by simpa using hc)
 ·obtain⟨j,k,p,es,cap,-,Z,e3⟩:=jO q1 hO;exact K.own b hb ⟨k,p,es,cap,Z,e3⟩
 ·rw [<-K.sg k T];simp [rJ,q3 k (Nat.lt_of_not_le λaa=>T (C k aa))]
def aNO(P:Program):Code->Option (Code×Oper×FuncId×Code)
 | .seq a (.seq (.region _ ops false) c)=>match ops.toList with
   | [o]=>match o.op,o.guard,o.dst with
     | .defer { callee:=.value (.func g),.. },none,none=>match P.funcs[g]? with
       |some fn=>if fn.body.isSome=true∧(fn.name== "runtime.NumGoroutine")=false then some (a,o,g,c) else none
       |none=>none
     |_,_,_=>none
   |_=>none
 |_=>none
def bNK(P:Program)(n0:Nat)(b:RC)(K:Ex->St->Prop):Ex->St->Prop
 | .normal,st=>dF P n0 b st K
 |_,_=>False
theorem aSS {f g:FuncId} {fn:Func} {rca rcb:RC} {rvs:List RV} {ob0 j:List Obj} {args:List V} {C:V} {ca cb:Code} {o:Oper} (hf:P.funcs[f]? =some fn)(aj:fn.body.isSome=true)(F:aNO P (fn.body.getD .skip)=some (ca,o,g,cb))(hq:Quiet P g)
 (ah:dK P fn.ntmps ca=some (strip rca)) (ak:dK P fn.ntmps cb=some (strip rcb))
 (aw:fn.results.toList.mapM (jR P)=some rvs) (hn:args.length<=fn.ntmps)
 (hK:dF P ob0.length rca ⟨dV 0 args,aI 0 ob0,ob0.length⟩ (bNK P ob0.length rcb (gR P ob0.length rvs C j))):aM P f ob0 args C j:=by
 intro U σ w z hR hl ha;obtain⟨c,hb⟩:=Option.isSome_iff_exists.1 aj;rw [hb,Option.getD_some] at F;unfold aNO at F;split at F
 ·rename_i a0 id G c0;split at F
  ·rename_i o' M;split at F
   ·rename_i g' xs ts au aq Y;split at F
    ·rename_i T ap;split at F
     ·rename_i aa;simp only [zse,Prod.mk.injEq] at F;obtain⟨rfl,rfl,rfl,rfl⟩:=F;refine calls_of_wp_defers hf hb ?_;have hz:∀k,ob0.length<=k->σ k=none:=λk O=>(hR.fresh k O).2;refine wp_seq ?_
      have first :a0.wp P (Exit.then ((Code.seq (.region id G false) c0).wp P (bodyPostD P fn λe B=>∃K D,e=.returned K/\aV U D (aI 0 j) B j.length/\VR (Own U D (aI 0 j)) B D C K/\bP σ (aI 0 ob0) w ob0.length D (aI 0 j) B j.length)) (bodyPostD P fn λe B=>∃K D,e=.returned K/\aV U D (aI 0 j) B j.length/\VR (Own U D (aI 0 j)) B D C K/\bP σ (aI 0 ob0) w ob0.length D (aI 0 j) B j.length)) { tmps:=z++zD (fn.ntmps-z.size) undef,defers:= [] } w:=by
       letI:qE:=⟨[]⟩
       have hrel:bJ U fn.ntmps σ ⟨dV 0 args,aI 0 ob0,ob0.length⟩ { tmps:=z++zD (fn.ntmps-z.size) undef,defers:= [] } w:=by
        refine⟨hR,by simp;omega,rfl,λd s hm=>?_⟩;obtain⟨i,v,hv,he⟩:=fF hm;obtain⟨rfl,rfl⟩:=Prod.mk.inj he;obtain⟨hi,-⟩:=List.getElem?_eq_some_iff.1 hv;have hc:=Array.getElem?_eq_getElem (xs:=z) (i:=i) (by omega);unfold SVR;simp only [Nat.zero_add];have :(z++zD (fn.ntmps-z.size) undef).getD i undef=z[i]:=by rw [Array.getD_eq_getD_getElem?,Array.getElem?_append_left (by omega),hc];rfl
        rw [this];exact ha i v _ hv hc
       refine rR hz rca a0 _ _ σ _ w _ ah hrel (λp hp=>by obtain⟨i,v,-,rfl⟩:=fF hp;rfl) (bP.refl _ _ _ _).toB hK λe R D m B O J al ag=>?_
       cases e with
       |exit id=>exact O.elim
       |ret=>exact O.elim
       |normal=>
        have O:dF P ob0.length rcb R (gR P ob0.length rvs C j):=O;show(Code.seq (.region id G false) c0).wp P _ m B;refine wp_seq (wp_region ?_);have ax:G.size=1:=by rw [<-Array.length_toList,M];rfl
        have ab:G[0]? =some o':=by rw [<-Array.getElem?_toList,M];rfl
        rw [ax];show wpOps P G _ [0] m B;have hw:Region.wanted o' (yielded G m.tmps)=true:=by unfold Region.wanted;rw [aq]
        let d:Deferred:= { target:=.fn (.func g') #[],args:=xs.map m.eval }
        have ae:(execOp m.eval o').run P B=.ok (.defer d) B:=by simp [execOp,au,resolve,Deferred.ofValue,Act.eval,d]
        have ao:m.defers=[]:=J.df;simp only [wpOps,ab,hw,if_true];left;unfold Oper.wp;rw [ae,Oper.upon_defer];have W:({ m with defers:=d::m.defers } :Act).put o'.dst undef= { m with defers:= [d] } :=by rw [Y,ao];rfl
        rw [W];show c0.wp P _ _ B;have av: @bJ _ ⟨[d]⟩ U fn.ntmps D R { m with defers:= [d] } B:= @bJ.mk _ ⟨[d]⟩ _ _ _ _ _ _ J.rel J.sz rfl J.sl
        refine @rR _ P U fn.ntmps ⟨[d]⟩ ob0.length σ (fD σ (aI 0 ob0)) w hz rcb c0 R _ D { m with defers:= [d] } B _ ak av al ag O λe2 af σ2 E w2 Q ac az g3=>?_
        have H:aMY ob0.length rvs C j af->Leaves P fn E.tmps (λe B=>∃K D,e=.returned K/\aV U D (aI 0 j) B j.length/\VR (Own U D (aI 0 j)) B D C K/\bP σ (aI 0 ob0) w ob0.length D (aI 0 j) B j.length) E.defers .returning w2:=by
         intro Z;have am:E.defers=[d]:= @bJ.df _ ⟨[d]⟩ _ _ _ _ _ _ ac;rw [am];obtain⟨v,hv,ad⟩:= @aVQ _ P U fn.ntmps ⟨[d]⟩ ob0.length σ σ2 ob0 j rvs C fn af E w w2 aw hz ac g3.toG Z;refine leaves_cons (by intro h;cases h) (f:=g') (args:=xs.map m.eval) ?_ ?_
         ·have ai:¬T.body=none:=λh=>by have :=aa.1;rw [h] at this;simp at this
          have ar:¬T.name= "runtime.NumGoroutine" :=fun h=>by have :=aa.2;rw [h] at this;simp at this
          simp [invoke,callFunc,ap,ar,ai]
         ·refine CallsD.mono (hq _ w2) λe u' B ⟨⟨v',he⟩,hu,ay⟩=>?_;subst he hu ay;exact⟨v,hv,ad⟩
        cases e2 with
        |exit id=>exact Q.elim
        |ret=>exact H Q
        |normal=>exact H Q
      exact first
     ·cases F
    ·cases F
   ·cases F
  ·cases F
 ·cases F
def bI7(P:Program)(n0:Nat)(b:RC)(K:Ex->St->Prop)(e:Ex)(st:St):Prop:=
 match e with
 | .normal=>Cd P n0 b st K
 | .exit _=>False
 | .ret=>False
def aPH(P:Program)(N:Nat)(live:List Nat)(ks:List Ct)(ca cb:Code):Option (RC×RC):=
 match dK P N cb with
 |some rb=>match oL rb live,dK P N ca with
  |some rb,some ra=>match unN (aFE rb) live with
   |some l=>match oL ra l,aJ9 ks rb with
    |some ra,some rb=>some (ra,rb)
    |_,_=>none
   |none=>none
  |_,_=>none
 |none=>none
theorem aEN {P:Program} {N:Nat} {e:List Nat} {z:List Ct} {ca cb:Code} {m rb:RC} (h:aPH P N e z ca cb=some (m,rb)):dK P N ca=some (strip m)/\dK P N cb=some (strip rb):=by
 unfold aPH at h
 repeat' split at h
 all_goals first | (cases h;done)|skip
 rename_i D f _ _ E B h2 j _ l G _ _ C F h4 h5;cases h
 exact⟨by rw [aAS h4,gT ca j,j],by rw [tQ h5,aAS h2,gT cb f,f]⟩
theorem bJ4(K:List Ct) {f g:FuncId} {fn:Func} {rca rcb:RC} {rvs:List RV} {ob0 j:List Obj} {args:List V} {m:V} {ca cb:Code} {o:Oper} (G:P.funcs[f]? =some fn)(B:fn.body.isSome=true)(F:aNO P (fn.body.getD .skip)=some (ca,o,g,cb))(J:Quiet P g)
 (C:fn.results.toList.mapM (jR P)=some rvs) (z:aPH P fn.ntmps (aFB args 0 (lJ rvs)) K ca cb=some (rca,rcb)) (H:Nat.ble args.length fn.ntmps=true)
 (D:cL 16 0 ob0.length λn0=>Cd P n0 rca ⟨dV 0 args,aI 0 ob0,n0⟩ (bI7 P n0 rcb (gR P n0 rvs m j))):aM P f ob0 args m j:=by
 rw [dS] at D;obtain⟨E,h2⟩:=aEN z;refine aSS G B F J E h2 C (zA H) ?_;have h:=D.h;rw [tO] at h
 have e:bI7 P ob0.length rcb (gR P ob0.length rvs m j)=bNK P ob0.length rcb (gR P ob0.length rvs m j):=by
  funext e st
  cases e with
  |normal=>show Cd P _ rcb st _=dF P _ rcb st _;rw [aS3,tO]
  |exit id=>rfl
  |ret=>rfl
 rw [e] at h;exact h
end
end Go.Sk
