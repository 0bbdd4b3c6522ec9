/- Caches. -/
import Derived.WalkKit
import Derived.WalkSpells
import Derived.WalkLawsBesides
import Derived.Laws.StructEq
import Derived.MapKept
import Derived.ChangeKeysEq
import Derived.WideKeyRuns
set_option linter.all false
open Array renaming getElem?_eq_getElem→zC,getElem?_extract→zS
open BitVec renaming ofInt→zH
open Bool renaming false_eq_true→zI,and_eq_true→zL,true_and→zU
open Int renaming natCast_zero→zR,toNat_of_nonneg→zT
open List renaming getElem?_eq_getElem→zD,getD_eq_getElem?_getD→zE,getElem?_cons_zero→zJ,range→zN,getElem?_take→zO,getElem?_cons_succ→zP,cons_append→zQ,getElem?_drop→zV,getElem?_map→zX,getElem_mem→zZ,drop→yA,take→yC
open Nat renaming add_assoc→zF,lt_of_lt_of_le→zG,add_mul→zM,le_trans→zW,zero_add→zY
open Option renaming map_eq_some_iff→zA,getD_some→zK
namespace Go.Sk
theorem zdt{p:Prop}[i:Decidable p](h:p):@decide p i=true:=decide_eq_true h
theorem zdf{p:Prop}[i:Decidable p](h:¬p):@decide p i=false:=decide_eq_false h
theorem zct{α:Type _}(a b:α):cond true a b=a:=rfl
theorem zcf{α:Type _}(a b:α):cond false a b=b:=rfl
theorem zbn{α:Type _}[BEq α][LawfulBEq α]{a b:α}:(a==b)=false↔a≠b:=beq_eq_false_iff_ne
theorem zbe{α:Type _}[BEq α][LawfulBEq α]{a b:α}:(a==b)=true↔a=b:=beq_iff_eq
theorem zdn{p:Prop}[i:Decidable p]:@decide p i=false↔¬p:=decide_eq_false_iff_not
theorem zbc{P:Prop}(h:false=true):P:=Bool.noConfusion h
theorem zsi{α:Type _}{a b:α}(h:some a=some b):a=b:=Option.some.inj h
theorem zse{α:Type _}(a b:α):(some a=some b)=(a=b):=Option.some.injEq a b
open Go Go.RowKit
inductive V where
 |any
 |int (k:IntKind) (n:Int)
 |bool (b:Bool)
 |str (s:ByteArray)
 |agg (cs:List V)
 |tup (vs:List V)
 |nil
 |ptr (k:Nat) (i c:Nat)
 |rp (es:Nat) (cs:List V) (c:Nat)
 |sl (k:Nat) (off len:Nat)
 |slx (k:Nat) (off len:Nat)
 |slk (k:Nat) (off len c:Nat)
 |lst (es:Nat) (t:Bool) (xs:List (List V))
 |fn (f:Nat) (caps:List V)
 |mp (k:Nat)
 |val (v:Value)
abbrev Sg:=Nat->Option (Option Nat×Nat×Nat)
inductive VR(O:Nat->Prop)(w:World):Sg->V->Value->Prop
 |any {σ:Sg} (v:Value):VR O w σ .any v
 |int {σ:Sg} (k:IntKind) (n:Int):VR O w σ (.int k n) (.int k n)
 |bool {σ:Sg} (b:Bool):VR O w σ (.bool b) (.bool b)
 |str {σ:Sg} (s:ByteArray):VR O w σ (.str s) (.string s)
 |agg {σ:Sg} {cs:List V} {arr:Array Value} (hn:arr.size=cs.length) (h:∀(i:Nat) (y:V) (v:Value),cs[i]? =some y->arr[i]? =some v->VR O w σ y v):VR O w σ (.agg cs) (.agg arr)
 |tup {σ:Sg} {cs:List V} {arr:Array Value} (hn:arr.size=cs.length) (h:∀(i:Nat) (y:V) (v:Value),cs[i]? =some y->arr[i]? =some v->VR O w σ y v):VR O w σ (.tup cs) (.tuple arr)
 |nil {σ:Sg} :VR O w σ .nil (.pointer none)
 |ptr {σ:Sg} {k i c b es cap:Nat} (h:σ k=some (some b,es,cap)):VR O w σ (.ptr k i c) (.pointer (some ⟨b,i*es+c,none⟩))
 |rp {σ:Sg} {es:Nat} {cs:List V} {c:Nat} (b o:Nat) (cv:Nat->Value) (hn:cs.length=es) (hO:¬O b) (hb:b<w.heap.size)
  (h1:∀j,j<es->w.cell? ⟨b,o+j,none⟩=some (cv j)) (h3:∀j,j<es->(cv j).oneCell'=true) (h2:∀(j:Nat) (y:V),cs[j]? =some y->VR O w (λ_=>none) y (cv j)):VR O w σ (.rp es cs c) (.pointer (some ⟨b,o+c,none⟩))
 |sl {σ:Sg} {k off len b es cap:Nat} {a:Option Addr} (h:σ k=some (some b,es,cap)) (hle:off+len<=cap) (ha:off<cap->a=some ⟨b,off*es,none⟩):VR O w σ (.sl k off len) (.slice a len (cap-off))
 |slx {σ:Sg} {k off len b es cap:Nat} {a:Option Addr} (h:σ k=some (some b,es,cap)) (hle:off+len<=cap) (ha:0<len->a=some ⟨b,off*es,none⟩):VR O w σ (.slx k off len) (.slice a len len)
 |slx0 {σ:Sg} {k es:Nat} {a:Option Addr} (h:σ k=some (none,es,0)):VR O w σ (.slx k 0 0) (.slice a 0 0)
 |slk {σ:Sg} {k off len c b es cap:Nat} {a:Option Addr} (h:σ k=some (some b,es,cap)) (hle:off+len<=cap) (ha:off<cap->a=some ⟨b,off*es,none⟩) (hc:c=cap-off):VR O w σ (.slk k off len c) (.slice a len c)
 |slk0 {σ:Sg} {k es:Nat} {a:Option Addr} (h:σ k=some (none,es,0)):VR O w σ (.slk k 0 0 0) (.slice a 0 0)
 |sl0 {σ:Sg} {k es:Nat} {a:Option Addr} (h:σ k=some (none,es,0)):VR O w σ (.sl k 0 0) (.slice a 0 0)
 |lst {σ:Sg} {es:Nat} {t:Bool} {xs:List (List V)} {a:Option Addr} {cap:Nat} (b o:Nat) (cv:Nat->Nat->Value)
  (ha:xs≠ []->a=some ⟨b,o,none⟩/\¬O b/\b<w.heap.size) (hes:∀x∈xs,x.length=es) (hcap:xs.length<=cap) (ht:t=true->cap=xs.length)
  (h1:∀(i c:Nat),i<xs.length->c<es->w.cell? ⟨b,o+i*es+c,none⟩=some (cv i c))
  (h3:∀(i c:Nat),i<xs.length->c<es->(cv i c).oneCell'=true)
  (h2:∀(i:Nat) (x:List V) (c:Nat) (y:V),xs[i]? =some x->x[c]? =some y->VR O w (λ_=>none) y (cv i c)):VR O w σ (.lst es t xs) (.slice a xs.length cap)
 |fn {σ:Sg} {f:Nat} {cs:List V} {arr:Array Value} (hn:arr.size=cs.length) (h:∀(i:Nat) (y:V) (v:Value),cs[i]? =some y->arr[i]? =some v->VR O w σ y v):VR O w σ (.fn f cs) (.func (.func f) #[] arr)
 |mp {σ:Sg} {k b es cap:Nat} (h:σ k=some (some b,es,cap)):VR O w σ (.mp k) (.map (some b))
 |val {σ:Sg} (v:Value):VR O w σ (.val v) v
structure cG(O:Nat->Prop)(w w':World):Prop where
 os:w'.os=w.os
 tape:w'.tape=w.tape
 output:w'.output=w.output
 size:w.heap.size<=w'.heap.size
 block:∀b,b<w.heap.size->¬O b->w'.heap[b]? =w.heap[b]?
theorem cG.refl(O:Nat->Prop)(w:World):cG O w w:=⟨rfl,rfl,rfl,Nat.le_refl _,λ_ _ _=>rfl⟩
theorem cG.trans {O O':Nat->Prop} {a b c:World} (h:cG O a b)(k:cG O' b c)(m:∀n,n<a.heap.size->O' n->O n):cG O a c:= ⟨k.os.trans h.os,k.tape.trans h.tape,k.output.trans h.output,zW h.size k.size,λi f j=>(k.block i (zG f h.size) (λz=>j (m i f z))).trans (h.block i f j)⟩
theorem cG.below {w w':World} (h:cG (λ_=>False) w w'):Below w.heap.size w w':=⟨h.os,h.tape,h.output,h.size,λk f=>h.block k f id⟩
theorem cG.cell {O:Nat->Prop} {w w':World} (h:cG O w w') {b o:Nat} (j:b<w.heap.size)(f:¬O b):w'.cell? ⟨b,o,none⟩=w.cell? ⟨b,o,none⟩:= World.cell?_of_block (w:=w) (h.block b j f)
inductive Refs:V->Nat->Prop
 |ptr {k i c:Nat} :Refs (.ptr k i c) k
 |sl {k off len:Nat} :Refs (.sl k off len) k
 |slx {k off len:Nat} :Refs (.slx k off len) k
 |slk {k off len c:Nat} :Refs (.slk k off len c) k
 |mp {k:Nat} :Refs (.mp k) k
 |agg {cs:List V} {i:Nat} {y:V} {k:Nat} (h:cs[i]? =some y) (hr:Refs y k):Refs (.agg cs) k
 |tup {cs:List V} {i:Nat} {y:V} {k:Nat} (h:cs[i]? =some y) (hr:Refs y k):Refs (.tup cs) k
 |fn {f:Nat} {cs:List V} {i:Nat} {y:V} {k:Nat} (h:cs[i]? =some y) (hr:Refs y k):Refs (.fn f cs) k
theorem VR.mono {σ σ':Sg} {O O':Nat->Prop} {w w':World} {x:V} {v:Value} (h:VR O w σ x v)(M:cG O w w')(hO:∀b,b<w.heap.size->O' b->O b)
 (B:∀k,Refs x k->σ' k=σ k):VR O' w' σ' x v:=by
 induction h generalizing σ' with
 |any v=>exact .any v
 |int k n=>exact .int k n
 |bool b=>exact .bool b
 |str s=>exact .str s
 |agg F h C=>exact .agg F λi y v m J=>C i y v m J λk H=>B k (.agg m H)
 |tup F h C=>exact .tup F λi y v m J=>C i y v m J λk H=>B k (.tup m H)
 |nil=>exact .nil
 |ptr h=>exact .ptr ((B _ .ptr).trans h)
 |rp b o Q F f E R T h2 C=> exact .rp b o Q F (λN=>f (hO b E N)) (zG E M.size) (λj hj=>(M.cell E f).trans (R j hj)) T λj y Z=>C j y Z λ_ _=>rfl
 |sl h z D=>exact .sl ((B _ .sl).trans h) z D
 |sl0 h=>exact .sl0 ((B _ .sl).trans h)
 |slx h z D=>exact .slx ((B _ .slx).trans h) z D
 |slx0 h=>exact .slx0 ((B _ .slx).trans h)
 |slk h z D W=>exact .slk ((B _ .slk).trans h) z D W
 |slk0 h=>exact .slk0 ((B _ .slk).trans h)
 | @lst σ es t xs a cap b o Q D Y G ht R T h2 C=>
   refine .lst b o Q (λN=>?_) Y G ht (λi c m W=>?_) T λi x c y N Z=>C i x c y N Z λ_ _=>rfl
   ·obtain⟨e,f,E⟩:=D N;exact⟨e,λN=>f (hO b E N),zG E M.size⟩
   ·obtain⟨e,f,E⟩:=D (by rintro rfl;simp at m);exact(M.cell E f).trans (R i c m W)
 |fn F h C=>exact .fn F λi y v m J=>C i y v m J λk H=>B k (.fn m H)
 |mp h=>exact .mp ((B _ .mp).trans h)
 |val v=>exact .val v
def unk:V->V
 | .slk k off len _=>.sl k off len
 |v=>v
theorem oQ {O:Nat->Prop} {w:World} {σ:Sg} {x:V} {v:Value} (h:VR O w σ x v):VR O w σ (unk x) v:=by
 cases h with
 |slk h f j H=>subst H;exact .sl h f j
 |slk0 h=>exact .sl0 h
 |any v=>exact .any v
 |int k n=>exact .int k n
 |bool b=>exact .bool b
 |str s=>exact .str s
 |agg m h=>exact .agg m h
 |tup m h=>exact .tup m h
 |nil=>exact .nil
 |ptr h=>exact .ptr h
 |rp b o B m F G C D h2=>exact .rp b o B m F G C D h2
 |sl h f j=>exact .sl h f j
 |slx h f j=>exact .slx h f j
 |slx0 h=>exact .slx0 h
 |sl0 h=>exact .sl0 h
 |lst b o B j E z J C D h2=>exact .lst b o B j E z J C D h2
 |fn m h=>exact .fn m h
 |mp h=>exact .mp h
 |val v=>exact .val v
theorem VR.refs {O:Nat->Prop} {w:World} {σ:Sg} {x:V} {v:Value} (h:VR O w σ x v):∀k,Refs x k->σ k≠none:=by
 induction h with
 |agg B h C=>
  intro k f
  cases f with
  | @agg _ i y _ m j=> obtain⟨z,_⟩:=List.getElem?_eq_some_iff.1 m;exact C i y _ m (zC (B▸z)) k j
 |tup B h C=>
  intro k f
  cases f with
  | @tup _ i y _ m j=> obtain⟨z,_⟩:=List.getElem?_eq_some_iff.1 m;exact C i y _ m (zC (B▸z)) k j
 |fn B h C=>
  intro k f
  cases f with
  | @fn _ _ i y _ m j=> obtain⟨z,_⟩:=List.getElem?_eq_some_iff.1 m;exact C i y _ m (zC (B▸z)) k j
 |ptr h=>intro k f;cases f;rw [h];simp
 |sl h=>intro k f;cases f;rw [h];simp
 |sl0 h=>intro k f;cases f;rw [h];simp
 |slx h=>intro k f;cases f;rw [h];simp
 |slx0 h=>intro k f;cases f;rw [h];simp
 |slk h=>intro k f;cases f;rw [h];simp
 |slk0 h=>intro k f;cases f;rw [h];simp
 |mp h=>intro k f;cases f;rw [h];simp
 |_=>intro k f;cases f
inductive Obj where
 |row (es:Nat) (xs:List (List V))
 |box (cs:List V)
 |mp (xs:Nat×List (List Int×V))
 |bb (l:List UInt8)
def kyV:List Int->Value
 | [n]=>.int .i64 n
 |l=>.agg (l.map (Value.int .i64)).toArray
abbrev aD:=List (Nat×Obj)
def aD.get:aD->Nat->Option Obj
 | [],_=>none
 | (j,o)::r,k=>if k=j then some o else aD.get r k
def aD.set:aD->Nat->Obj->aD
 | [],k,o=> [(k,o)]
 | (j,p)::r,k,o=>if k=j then(k,o)::r else(j,p)::aD.set r k o
def aD.del:aD->Nat->aD
 | [],_=> []
 | (j,p)::r,k=>if k=j then aD.del r k else(j,p)::aD.del r k
theorem aD.get_set(S:aD)(k:Nat)(o:Obj)(j:Nat):(S.set k o).get j=if j=k then some o else S.get j:=by
 induction S with
 |nil=>simp [aD.set,aD.get]
 |cons p r m=>
  obtain⟨i,q⟩:=p;simp only [aD.set]
  by_cases h:k=i
  ·subst h;simp only [if_true,aD.get];by_cases f:j=k <;> simp [f]
  ·simp only [if_neg h,aD.get,m]
   by_cases f:j=i
   ·subst f;simp [Ne.symm h]
   ·simp [f]
theorem aD.get_del(S:aD)(k:Nat)(j:Nat):(S.del k).get j=if j=k then none else S.get j:=by
 induction S with
 |nil=>simp [aD.del,aD.get]
 |cons p r m=>
  obtain⟨i,q⟩:=p;simp only [aD.del]
  by_cases h:k=i
  ·subst h;simp only [if_true,m,aD.get];by_cases f:j=k <;> simp [f]
  ·simp only [if_neg h,aD.get,m]
   by_cases f:j=i
   ·subst f;simp [Ne.symm h]
   ·simp [f]
def fD(σ:Sg)(S:aD)(b:Nat):Prop:=∃(k:Nat) (o:Obj) (es cap:Nat),S.get k=some o/\σ k=some (some b,es,cap)
def Own(U:Nat->Prop)(σ:Sg)(S:aD)(b:Nat):Prop:=U b\/fD σ S b
def mkF(_b:Bool)(_n:Nat):Nat×Nat:=(0,0)
def lM(O:Nat->Prop)(w:World)(σ:Sg)(loc:Option (Option Nat×Nat×Nat)):Obj->Prop
 | .row es xs=>(∀x∈xs,x.length=es)/\match loc with
   |none=>False
   |some (none,es',cap)=>es'=es/\cap=0/\xs=[]
   |some (some b,es',cap)=>es'=es/\(xs.length<=cap/\cap<=9223372036854775807)/\∃(arr:Array Value) (ty:TypeId×Bool),w.heap[b]? =some (.cells arr ty.1 (mkF ty.2 arr.size))/\cap*es<=arr.size/\
    ∀(i:Nat) (x:List V) (c:Nat) (y:V),xs[i]? =some x->x[c]? =some y->∃v,arr[i*es+c]? =some v/\v.oneCell'=true/\VR O w (λ_=>none) y v
 | .box cs=>∃b,loc=some (some b,cs.length,1)/\∃arr ty,w.heap[b]? =some (.cells arr ty (0,0))/\arr.size=cs.length/\
  ∀(c:Nat) (y:V),cs[c]? =some y->∃v,arr[c]? =some v/\v.oneCell'=true/\VR O w σ y v
 | .mp xs=>∃b,loc=some (some b,0,0)∧∃es clock,w.heap[b]? =some (.map es clock)∧es.size=xs.2.length∧
       ∀(i:Nat) (p:List Int×V),xs.2[i]? =some p->∃en,es[i]? =some en/\(p.1.length=xs.1/\en.key=kyV p.1)/\VR O w (λ_=>none) p.2 en.val
 | .bb l=>∃b cap,loc=some (some b,1,cap)∧(l.length≤cap∧cap≤9223372036854775807)∧∃arr ty,w.heap[b]? =some (.cells arr ty (arr.size,arr.size+1))∧cap≤arr.size∧
       ∀(i:Nat) (x:UInt8),l[i]? =some x->arr[i]? =some (.int .u8 (x.toNat:Int))
class gL where
 gl:Nat->Option (List V)
 ro:List Nat
variable [gL]
def GlR(O:Nat->Prop)(w:World):Prop:=∀(g:Nat) (cs:List V),gL.gl g=some cs->VR O w (λ_=>none) (.rp cs.length cs 0) (.pointer (some ⟨g,0,none⟩))
theorem GlR.mono {O O':Nat->Prop} {w w':World} (h:GlR O w)(m:cG O w w')(j:∀b,b<w.heap.size->O' b->O b):GlR O' w':=λg f e=>(h g f e).mono m j λ_ _=>rfl
theorem GlR.less {O O':Nat->Prop} {w:World} (h:GlR O w)(f:∀b,O' b->O b):GlR O' w:=h.mono (cG.refl _ _) λb _=>f b
structure aV(U:Nat->Prop)(σ:Sg)(S:aD)(w:World)(n:Nat):Prop where
 obj:∀k o,S.get k=some o->lM (Own U σ S) w σ (σ k) o
 inj:∀k k' o o' b es cap es' cap',S.get k=some o->S.get k'=some o'->σ k=some (some b,es,cap)->σ k'=some (some b,es',cap')->k=k'
 fresh:∀k,n<=k->S.get k=none/\σ k=none
 disj:∀b,fD σ S b->¬U b
 ulim:∀b,U b->b<w.heap.size
 gl:GlR (Own U σ S) w
theorem aV.size {U:Nat->Prop} {σ:Sg} {S:aD} {w:World} {n:Nat} (h:aV U σ S w n) {b:Nat} (F:fD σ S b):b<w.heap.size:=by
 obtain⟨k,o,es,cap,G,H⟩:=F;have z:=h.obj k o G;rw [H] at z
 cases o with
 |row E xs=> obtain⟨-,-,-,j,D,m,-⟩:=z;exact(Array.getElem?_eq_some_iff.1 m).1
 |box M=> obtain⟨B,f,j,D,m,-⟩:=z;simp only [zse,Prod.mk.injEq] at f;obtain⟨rfl,-,-⟩:=f;exact(Array.getElem?_eq_some_iff.1 m).1
 |mp xs=> obtain⟨B,f,j,J,m,-⟩:=z;simp only [zse,Prod.mk.injEq] at f;obtain⟨rfl,-,-⟩:=f;exact(Array.getElem?_eq_some_iff.1 m).1
 |bb l=> obtain⟨B,C,f,-,j,D,m,-⟩:=z;simp only [zse,Prod.mk.injEq] at f;obtain⟨rfl,-,-⟩:=f;exact(Array.getElem?_eq_some_iff.1 m).1
theorem aV.loc {U:Nat->Prop} {σ:Sg} {S:aD} {w:World} {n:Nat} (h:aV U σ S w n) {k:Nat} {o:Obj} (m:S.get k=some o):σ k≠none:=by
 intro z;have j:=h.obj k o m;rw [z] at j
 cases o with
 |row es xs=>exact j.2
 |box B=>obtain⟨b,f,-⟩:=j;cases f
 |mp xs=>obtain⟨b,f,-⟩:=j;cases f
 |bb l=>obtain⟨b,cap,f,-⟩:=j;cases f
structure bP(σ:Sg)(S:aD)(w:World)(n:Nat)(σ':Sg)(S':aD)(w':World)(n':Nat):Prop where
 keep:cG (fD σ S) w w'
 own:∀b,b<w.heap.size->fD σ' S' b->fD σ S b
 sg:∀k,σ k≠none->σ' k=σ k
 nx:n<=n'
theorem bP.refl(σ:Sg)(S:aD)(w:World)(n:Nat):bP σ S w n σ S w n:=⟨cG.refl _ _,λ_ _ h=>h,λ_ _=>rfl,Nat.le_refl _⟩
theorem bP.trans {σ σ' z:Sg} {S C f:aD} {w w' m:World} {n E j:Nat} (h:bP σ S w n σ' C w' E)(g:bP σ' C w' E z f m j):bP σ S w n z f m j:= ⟨h.keep.trans g.keep h.own,λb D F=>h.own b D (g.own b (zG D h.keep.size) F),λk B=>(g.sg k (by rw [h.sg k B];exact B)).trans (h.sg k B),zW h.nx g.nx⟩
structure cU(O0:Nat->Prop)(σ:Sg)(w:World)(n:Nat)(σ':Sg)(S':aD)(w':World)(n':Nat):Prop where
 keep:cG O0 w w'
 own:∀b,b<w.heap.size->fD σ' S' b->O0 b
 sg:∀k,σ k≠none->σ' k=σ k
 nx:n<=n'
theorem cU.trans {O0:Nat->Prop} {σ σ' z:Sg} {C f:aD} {w w' m:World} {n E j:Nat} (h:cU O0 σ w n σ' C w' E)(g:bP σ' C w' E z f m j):cU O0 σ w n z f m j:= ⟨h.keep.trans g.keep h.own,λb D F=>h.own b D (g.own b (zG D h.keep.size) F),λk B=>(g.sg k (by rw [h.sg k B];exact B)).trans (h.sg k B),zW h.nx g.nx⟩
theorem bP.toB {σ σ':Sg} {S f:aD} {w w':World} {n j:Nat} (h:bP σ S w n σ' f w' j):cU (fD σ S) σ w n σ' f w' j:=⟨h.keep,h.own,h.sg,h.nx⟩
theorem cU.toG {σ σ':Sg} {S f:aD} {w w':World} {n j:Nat} (h:cU (fD σ S) σ w n σ' f w' j):bP σ S w n σ' f w' j:=⟨h.keep,h.own,h.sg,h.nx⟩
theorem cG.wider {O O':Nat->Prop} {w w':World} (h:cG O w w')(m:∀b,O b->O' b):cG O' w w':=⟨h.os,h.tape,h.output,h.size,λb f j=>h.block b f λz=>j (m b z)⟩
theorem bP.keepU {σ σ':Sg} {S f:aD} {w w':World} {n j:Nat} (g:bP σ S w n σ' f w' j)(U:Nat->Prop):cG (Own U σ S) w w':=g.keep.wider λ_ h=>.inr h
theorem bP.ownU {σ σ':Sg} {S f:aD} {w w':World} {n m:Nat} (g:bP σ S w n σ' f w' m)(U:Nat->Prop):∀b,b<w.heap.size->Own U σ' f b->Own U σ S b:=λb j h=>h.imp id (g.own b j)
theorem VR.grow {U:Nat->Prop} {σ σ':Sg} {S f:aD} {w w':World} {n m:Nat} {x:V} {v:Value} (h:VR (Own U σ S) w σ x v)(g:bP σ S w n σ' f w' m):VR (Own U σ' f) w' σ' x v:= h.mono (g.keepU U) (g.ownU U) λk j=>g.sg k (h.refs k j)
theorem VR.lift {O:Nat->Prop} {w:World} {x:V} {v:Value} (h:VR O w (λ_=>none) x v)(σ:Sg):VR O w σ x v:= h.mono (cG.refl O w) (λ_ _ h=>h) λk f=>absurd rfl (h.refs k f)
def aD.cellsAt(S:aD)(k i:Nat):List V:=
 match S.get k with
 |some (.row _ xs)=>xs.getD i []
 |some (.box cs)=>cs
 |some (.mp _)=> []
 |some (.bb _)=> []
 |none=> []
theorem aV.cells {U:Nat->Prop} {σ:Sg} {S:aD} {w:World} {n:Nat} (h:aV U σ S w n) {k i:Nat} {b es cap:Nat} (J:σ k=some (some b,es,cap))
 {o:Obj} (F:S.get k=some o) (hi:match o with | .row _ xs=>i<xs.length | .box _=>i=0 | .mp _=>False | .bb _=>False):
 (S.cellsAt k i).length=es/\b<w.heap.size/\∀(c:Nat) (y:V),(S.cellsAt k i)[c]? =some y->∃v,w.cell? ⟨b,i*es+c,none⟩=some v/\v.oneCell'=true/\VR (Own U σ S) w σ y v:=by
 have f:=h.obj k o F;rw [J] at f;unfold aD.cellsAt;rw [F];refine⟨?_,h.size ⟨k,o,es,cap,F,J⟩,?_⟩
 ·cases o with
  |row B xs=> obtain⟨j,rfl,-⟩:=f;simp only at hi;simp only [zE,zD hi,zK];exact j _ (zZ hi)
  |box N=> obtain⟨M,j,-⟩:=f;simp only [zse,Prod.mk.injEq] at j;exact j.2.1.symm
  |mp xs=>exact hi.elim
  |bb l=>exact hi.elim
 ·intro c y m
  cases o with
  |row B xs=> obtain⟨j,rfl,Q,z,O,E,G,H⟩:=f;simp only at hi m;simp only [zE,zD hi,zK] at m;obtain⟨v,C,D,h2⟩:=H i xs[i] c y (zD hi) m;exact⟨v,by simp [World.cell?,E,C],D,h2.lift σ⟩
  |box N=> simp only at hi m;subst hi;obtain⟨M,j,z,O,E,G,H⟩:=f;simp only [zse,Prod.mk.injEq] at j;obtain⟨rfl,rfl,rfl⟩:=j;obtain⟨v,C,D,h2⟩:=H c y m;exact⟨v,by simp [World.cell?,E,C],D,h2⟩
  |mp xs=>exact hi.elim
  |bb l=>exact hi.elim
end Go.Sk
namespace Go.Sk
open Go Go.RowKit
variable [gL]
inductive A where
 |t (n:Nat)
 |c (v:V)
inductive Kd where
 |i |b |s
inductive I where
 |mv (x:A)
 |pick (c a b:A)
 |un (op:UnOp) (x:A)
 |bin (op:BinOp) (x y:A)
 |conv (k:IntKind) (x:A)
 |nilck (x:A)
 |faddr (off:Nat) (x:A)
 |fget (agg:Bool) (off n:Nat) (x:A)
 |ld (agg:Bool) (n:Nat) (x:A)
 |st (n:Nat) (x y:A)
 |iaddr (es:Nat) (x i:A)
 |iarr (n es:Nat) (x i:A)
 |aidx (n:Nat) (x i:A)
 |slc (es:Nat) (x:A) (lo hi:Option A)
 |slc3 (es:Nat) (x:A) (lo:Option A) (hi mx:A)
 |isnil (neg:Bool) (x:A)
 |mkfn (f:Nat) (xs:List A)
 |len (x:A)
 |mx (x y:A)
 |mn (x y:A)
 |extr (i:Nat) (x:A)
 |eqb (neg:Bool) (x y:A)
 |eqs (neg:Bool) (offs:List (Nat×Kd)) (x y:A)
 |slen (x:A)
 |sidx (x i:A)
 |ssl (x:A) (lo hi:Option A)
 |scat (x y:A)
 |sqs (neg:Bool) (x y:A)
 |b2s (x:A)
 |s2b (x:A)
 |aslc (n:Nat) (x:A) (hi:Option A)
 |cpys (x y:A)
 |build (z:List V) (ps:List (Nat×Nat×A))
 |alloc (z:List V)
 |box (x:A)
 |bslice (es:Nat) (z:List V) (n:Nat) (ps:List (Nat×A))
 |mk (es bytes:Nat) (z:List V) (l c:A)
 |app (es bytes:Nat) (x y:A)
 |cpy (es:Nat) (x y:A)
 |mkmap (ks:Nat)
 |mget (z:V) (ok:Bool) (x i:A)
 |mput (x i v:A)
 |mgetp (z:V) (ok:Bool) (x i:A)
 |mputp (x i v:A)
 |clr (es:Nat) (z:List V) (x:A)
 |call (f:Nat) (xs:List A)
 |vcall (x:A) (xs:List A)
 |bad
def vOf:Value->Option V
 | .int k n=>some (.int k n)
 | .bool b=>some (.bool b)
 | .string s=>some (.str s)
 | .pointer none=>some .nil
 | .slice none 0 0=>some (.lst 0 true [])
 | .tuple a=>if a.size=0 then some (.tup []) else none
 | .nilFunc=>some (.val .nilFunc)
 | .map none=>some (.val (.map none))
 | .nilIface=>some (.val .nilIface)
 |_=>none
theorem aRY {v:Value} {x:V} (h:vOf v=some x)(O:Nat->Prop)(w:World)(σ:Sg):VR O w σ x v:=by
 unfold vOf at h;split at h
 case h_6 a=>
  split at h
  ·rename_i h0;obtain rfl:=zsi h;exact .tup (by simpa using h0) (by simp)
  ·cases h
 case h_10=>cases h
 all_goals(obtain rfl:=zsi h)
 ·exact .int _ _
 ·exact .bool _
 ·exact .str _
 ·exact .nil
 ·exact .lst (xs:= []) 0 0 (λ_ _=>undef) (by simp) (by simp) (by simp) (by simp) (by simp) (by simp) (by simp)
 ·exact .val _
 ·exact .val _
 ·exact .val _
def aPW:List Value->Option (List V)
 | []=>some []
 |v::r=>match vOf v,aPW r with
  |some x,some xs=>some (x::xs)
  |_,_=>none
theorem aMO {vs:List Value} {xs:List V} (h:aPW vs=some xs):xs.length=vs.length/\∀(i:Nat) (y:V) (v:Value),xs[i]? =some y->vs[i]? =some v->∀(O:Nat->Prop) (w:World) (σ:Sg),VR O w σ y v:=by
 induction vs generalizing xs with
 |nil=>simp only [aPW,zse] at h;subst h;simp
 |cons v r B=>
  simp only [aPW] at h;split at h
  ·rename_i x C z h2;obtain rfl:=zsi h;obtain⟨e,f⟩:=B h2;refine⟨by simp [e],λi y u j m=>?_⟩
   cases i with
   |zero=>simp only [zJ,zse] at j m;subst j m;exact aRY z
   |succ i=>simp only [zP] at j m;exact f i y u j m
  ·cases h
def bK:Operand->Option A
 | .tmp t=>some (.t t)
 | .const v=>(vOf v).map .c
 | .func f=>some (.c (.fn f []))
 | .global g=>(gL.gl g).map λcs=>.c (.rp cs.length cs 0)
def dD(P:Program)(t:TypeId):Option Bool:=
 match P.underlying t with
 |some (.struct _)=>some true
 |some (.array _ _)=>some true
 |some _=>some false
 |none=>none
def bG(P:Program)(t:TypeId):Option Nat:=(P.info? t).map (·.size)
section runs
variable {P:Program} {w:World}
theorem bE {t:TypeId} {n:Nat} (h:bG P t=some n):(sizeOf t).run P w=.ok n w:=by
 unfold bG at h
 cases f:P.info? t with
 |none=>simp [f] at h
 |some i=>simp only [f,Option.map_some,zse] at h;subst h;simp [sizeOf,typeInfo,f]
theorem kJ {t:TypeId} {b:Bool} (h:dD P t=some b):(isAgg t).run P w=.ok b w:=by
 unfold dD at h
 cases f:P.underlying t with
 |none=>simp [f] at h
 |some d=> simp only [f] at h;unfold isAgg;simp only [Sem.run_bind,run_underlying f,Result.andThen_ok];cases d <;> simp_all
theorem kW(b o j:Nat):Addr.add ⟨b,o,none⟩ j=⟨b,o+j,none⟩:=by unfold Addr.add;split <;> simp_all
theorem run_loadCellsFrom(b o:Nat)(cv:Nat->Value):∀(n i:Nat) (f:Array Value),(∀j,j<n->w.cell? ⟨b,o+(i+j),none⟩=some (cv (i+j)))->
 (loadCellsFrom ⟨b,o,none⟩ i n f).run P w=.ok (f++((zN n).map λj=>cv (i+j)).toArray) w:=by
 intro n
 induction n with
 |zero=>intro i f _;simp [loadCellsFrom]
 |succ n z=>
  intro i f h;have m:=h 0 (by omega);simp only [Nat.add_zero] at m;simp only [loadCellsFrom,Sem.run_bind,kW,run_load,m,Result.andThen_ok];rw [z (i+1) _ λj B=>by have :=h (j+1) (by omega);rw [show i+1+j=i+(j+1) by omega];exact this]
  congr 1
  apply Array.ext';simp [List.range_succ_eq_map,Function.comp_def,zF,Nat.add_comm 1]
theorem run_loadCells(b o:Nat)(cv:Nat->Value)(n:Nat)(h:∀j,j<n->w.cell? ⟨b,o+j,none⟩=some (cv j)):
 (loadCells ⟨b,o,none⟩ n).run P w=.ok ((zN n).map cv).toArray w:=by
 unfold loadCells;rw [run_loadCellsFrom b o cv n 0 #[] (by simpa using h)];simp
theorem aM9 {t:TypeId} {agg:Bool} {n:Nat} (z:dD P t=some agg)(B:bG P t=some n)(b o:Nat)(cv:Nat->Value)
 (h:∀j,j<n->w.cell? ⟨b,o+j,none⟩=some (cv j)) (m:agg=false->n=1):
 (loadVar t ⟨b,o,none⟩).run P w=.ok (if agg then .agg ((zN n).map cv).toArray else cv 0) w:=by
 unfold loadVar;simp only [Sem.run_bind,kJ z,Result.andThen_ok]
 cases agg with
 |true=>simp [bE B,run_loadCells b o cv n h]
 |false=> have f:=h 0 (by have :=m rfl;omega);simp only [Nat.add_zero] at f;simp [f]
end runs
def aLA(g:TypeId->Nat->Option (List (Nat×Kd)))(P:Program)(n o:Nat):List Field->Option (List (Nat×Kd))
 | []=>some []
 |f::r=>match g f.type (o+f.offset),bG P f.type,aLA g P n o r with
  |some l,some m,some k=>if f.name≠ "_" ∧f.offset+m≤n then some (l++k) else none
  |_,_,_=>none
def aLB(g:Nat->Option (List (Nat×Kd)))(es:Nat):Nat->Nat->Option (List (Nat×Kd))
 |0,_=>some []
 |n+1,o=>match g o,aLB g es n (o+es) with
  |some l,some k=>some (l++k)
  |_,_=>none
def mX(P:Program):Nat->TypeId->Nat->Option (List (Nat×Kd))
 |0,_,_=>none
 |d+1,t,o=>match P.underlying t with
  |some (.int _)=>if bG P t=some 1 then some [(o,.i)] else none
  |some .bool=>if bG P t=some 1 then some [(o,.b)] else none
  |some .string=>if bG P t=some 1 then some [(o,.s)] else none
  |some (.struct fs)=>match bG P t with
   |some n=>if P.stoodInHeld t=false then aLA (mX P d) P n o fs.toList else none
   |none=>none
  |some (.array n e)=>match bG P e,bG P t with
   |some es,some m=>if m=n*es then aLB (λo=>mX P d e o) es n o else none
   |_,_=>none
  |_=>none
def eqTy(P:Program)(t:TypeId):Option (List (Nat×Kd)):=if P.eqGuardType P.depth t=false then mX P 8 t 0 else none
def bGG(P:Program)(t:TypeId):Bool:=match P.underlying t with
 |some (.int .i64)=>true
 |_=>false
def aHX(P:Program)(t:TypeId)(fs:Array Field):Bool:=
 (match dD P t,bG P t,mX P 8 t 0 with
 |some true,some 2,some [(0,.i),(1,.i)]=>true
 |_,_,_=>false)&&fs.toList.all λf=>bGG P f.type&&((match dD P f.type with |some false=>true |_=>false)&&Nat.blt f.offset 2)
def aPI(P:Program):Op->Option I
 | .move x=>(bK x).map .mv
 | .assign x=>(bK x).map .mv
 | .pick c a b=>match bK c,bK a,bK b with
   |some c,some a,some b=>some (.pick c a b)
   |_,_,_=>none
 | .unOp op _ x=>(bK x).map (.un op)
 | .binOp op t x y _=>match P.underlying t,bK x,bK y with
   |some (.int _),some x,some y=>some (.bin op x y)
   |some .bool,some x,some y=>match op with
    | .eql=>some (.eqb false x y)
    | .neq=>some (.eqb true x y)
    |_=>none
   |some (.struct _),some x,some y=>match eqTy P t,op with
    |some l,.eql=>some (.eqs false l x y)
    |some l,.neq=>some (.eqs true l x y)
    |_,_=>none
   |some (.array _ _),some x,some y=>match eqTy P t,op with
    |some l,.eql=>some (.eqs false l x y)
    |some l,.neq=>some (.eqs true l x y)
    |_,_=>none
   |some (.slice _),some x,some _=>match op,y with
    | .eql,.const (.slice none 0 0)=>some (.isnil false x)
    | .neq,.const (.slice none 0 0)=>some (.isnil true x)
    |_,_=>none
   |_,_,_=>none
 | .convert s d x=>match P.underlying s,P.underlying d,bK x with
   |some (.int _),some (.int k),some x=>some (.conv k x)
   |_,_,_=>none
 | .nilCheck x=>(bK x).map .nilck
 | .fieldAddr s x f=>match P.underlying s,bK x with
   |some (.struct fs),some x=>match fs[f]? with
    |some fd=>match bG P fd.type with
     |some (_+1)=>some (.faddr fd.offset x)
     |_=>none
    |none=>none
   |_,_=>none
 | .load t a=>match dD P t,bG P t,bK a with
   |some agg,some n,some a=>if agg=true\/n=1 then some (.ld agg n a) else none
   |_,_,_=>none
 | .extract x i=>(bK x).map (.extr i)
 | .lookup t x i ok=>match P.underlying t,bK x,bK i with
   |some (.map kt el),some x,some i=>match P.underlying kt,(P.info? el).bind (·.zero) with
    |some (.int .i64),some zv=>(vOf zv).map λz=>.mget z ok x i
    |some (.struct fs),some zv=>if aHX P kt fs=true then(vOf zv).map λz=>.mgetp z ok x i else none
    |_,_=>none
   |_,_,_=>none
 | .indexAddr t x i=>match P.underlying t,bK x,bK i with
   |some (.slice e),some x,some i=>(bG P e).map λes=>.iaddr es x i
   |some (.array n e),some x,some i=>(bG P e).map λes=>.iarr n es x i
   |_,_,_=>none
 | .index t x i=>match P.underlying t,bK x,bK i with
   |some (.array n e),some x,some i=>if dD P e=some false/\bG P e=some 1 then some (.aidx n x i) else none
   |_,_,_=>none
 | .field t x f=>match P.underlying t,bK x with
   |some (.struct fs),some x=>match fs[f]? with
    |some fd=>match dD P fd.type,bG P fd.type with
     |some agg,some n=>if agg=true\/n=1 then some (.fget agg fd.offset n x) else none
     |_,_=>none
    |none=>none
   |_,_=>none
 | .makeFunc (.func f) first caps=>match first.toList with
   | []=>(caps.toList.mapM bK).map (.mkfn f)
   |_=>none
 | .slice t x lo (some hi) (some mx)=>match P.underlying t,bK x,bK hi,bK mx with
   |some (.slice e),some x,some hi,some mx=>match bG P e,lo with
    |some es,none=>some (.slc3 es x none hi mx)
    |some es,some l=>(bK l).map λl=>.slc3 es x (some l) hi mx
    |_,_=>none
   |_,_,_,_=>none
 | .slice t x lo hi none=>match P.underlying t,bK x with
   |some (.slice e),some x=>match bG P e,lo,hi with
    |some es,none,none=>some (.slc es x none none)
    |some es,some l,none=>(bK l).map λl=>.slc es x (some l) none
    |some es,none,some h=>(bK h).map λh=>.slc es x none (some h)
    |some es,some l,some h=>match bK l,bK h with
     |some l,some h=>some (.slc es x (some l) (some h))
     |_,_=>none
    |_,_,_=>none
   |_,_=>none
 | .call { callee:=.builtin .len,args,argTypes } =>match args.toList,argTypes.toList with
   | [x],[t]=>match P.underlying t,bK x with
     |some (.slice _),some x=>some (.len x)
     |_,_=>none
   |_,_=>none
 | .call { callee:=.builtin .max,args,.. } =>match args.toList with
   | [x,y]=>match bK x,bK y with
     |some x,some y=>some (.mx x y)
     |_,_=>none
   |_=>none
 | .call { callee:=.builtin .min,args,.. } =>match args.toList with
   | [x,y]=>match bK x,bK y with
     |some x,some y=>some (.mn x y)
     |_,_=>none
   |_=>none
 |_=>none
def bEK(P:Program):Op->Option I
 | .binOp op t x y _=>match P.underlying t,bK x,bK y with
   |some .string,some x,some y=>match op with
    | .add=>some (.scat x y)
    | .eql=>some (.sqs false x y)
    | .neq=>some (.sqs true x y)
    |_=>none
   |_,_,_=>none
 | .convert s d x=>match P.underlying s,P.underlying d,bK x with
   |some (.slice e),some .string,some x=>match P.underlying e,bG P e with
    |some (.int .u8),some 1=>some (.b2s x)
    |_,_=>none
   |_,_,_=>none
 | .index t x i=>match P.underlying t,bK x,bK i with
   |some .string,some x,some i=>some (.sidx x i)
   |_,_,_=>none
 | .slice t x lo hi none=>match P.underlying t,bK x with
   |some .string,some x=>match lo,hi with
    |none,none=>some (.ssl x none none)
    |some l,none=>(bK l).map λl=>.ssl x (some l) none
    |none,some h=>(bK h).map λh=>.ssl x none (some h)
    |some l,some h=>match bK l,bK h with
     |some l,some h=>some (.ssl x (some l) (some h))
     |_,_=>none
   |_,_=>none
 | .call { callee:=.builtin .len,args,argTypes } =>match args.toList,argTypes.toList with
   | [x],[t]=>match P.underlying t,bK x with
     |some .string,some x=>some (.slen x)
     |_,_=>none
   |_,_=>none
 |_=>none
def aI7(P:Program)(o:Op):Option I:=
 match aPI P o with
 |some i=>some i
 |none=>bEK P o
def gC(op:BinOp)(k:IntKind)(x y:Int):Int:=
 k.wrap (match op with
   | .and=>(zH k.bits x &&& zH k.bits y).toNat
   | .or=>(zH k.bits x ||| zH k.bits y).toNat
   | .xor=>(zH k.bits x ^^^ zH k.bits y).toNat
   |_=>(zH k.bits x &&& ~~~ zH k.bits y).toNat:Nat)
def shk(op:BinOp)(k k':IntKind):Bool:=
 match op with
 | .shl=>true
 | .shr=>true
 |_=>decide (k=k')
def aF6(op:BinOp)(k:IntKind)(a b:Int)(gc:Bool)(K:V->Prop):Prop:=
 match op with
 | .add=>K (.int k (k.wrap (a+b)))
 | .sub=>K (.int k (k.wrap (a-b)))
 | .mul=>K (.int k (k.wrap (a*b)))
 | .quo=>(gc=true->b≠0)/\K (.int k (k.wrap (a.tdiv b)))
 | .rem=>(gc=true->b≠0)/\K (.int k (a.tmod b))
 | .eql=>K (.bool (a==b))
 | .neq=>K (.bool (a != b))
 | .lss=>K (.bool (decide (a<b)))
 | .leq=>K (.bool (decide (a<=b)))
 | .gtr=>K (.bool (decide (b<a)))
 | .geq=>K (.bool (decide (b<=a)))
 | .and=>K (.int k (gC .and k a b))
 | .or=>K (.int k (gC .or k a b))
 | .xor=>K (.int k (gC .xor k a b))
 | .andNot=>K (.int k (gC .andNot k a b))
 | .shl=>(gc=true->0<=b)/\K (.int k (k.wrap (a*2^min b.toNat k.bits)))
 | .shr=>(gc=true->0<=b)/\K (.int k (a.fdiv (2^min b.toNat k.bits)))
def uW(a b:ByteArray):Bool:=a.data.toList==b.data.toList
def iQ:List (Nat×Kd)->List V->List V->Bool->(Bool->Prop)->Prop
 | [],_,_,acc,K=>K acc
 | (o,.i)::r,xs,ys,acc,K=>match xs[o]?,ys[o]? with
   |some (.int k a),some (.int k' b)=>k=k'/\iQ r xs ys (acc&&(a==b)) K
   |_,_=>False
 | (o,.b)::r,xs,ys,acc,K=>match xs[o]?,ys[o]? with
   |some (.bool a),some (.bool b)=>iQ r xs ys (acc&&(a==b)) K
   |_,_=>False
 | (o,.s)::r,xs,ys,acc,K=>match xs[o]?,ys[o]? with
   |some (.str a),some (.str b)=>iQ r xs ys (acc&&uW a b) K
   |_,_=>False
theorem qJ {K m:Bool->Prop} (hm:∀r,K r->m r):∀ {j:List (Nat×Kd)} {xs ys:List V} {f:Bool},iQ j xs ys f K->iQ j xs ys f m
 | [],_,_,_,h=>hm _ h
 | (o,.i)::r,xs,ys,f,h=>by
   simp only [iQ] at h⊢;split at h
   ·exact⟨h.1,qJ hm h.2⟩
   ·exact h.elim
 | (o,.b)::r,xs,ys,f,h=>by
   simp only [iQ] at h⊢;split at h
   ·exact qJ hm h
   ·exact h.elim
 | (o,.s)::r,xs,ys,f,h=>by
   simp only [iQ] at h⊢;split at h
   ·exact qJ hm h
   ·exact h.elim
theorem tX {K:Bool->Prop} :∀ {j:List (Nat×Kd)} {xs ys:List V} {f:Bool},iQ j xs ys f K->∃r,K r/\iQ j xs ys f λz=>z=r
 | [],_,_,_,h=>⟨_,h,rfl⟩
 | (o,.i)::r,xs,ys,f,h=>by
   simp only [iQ] at h⊢;split at h
   ·obtain⟨q,m,h2⟩:=tX h.2;exact⟨q,m,h.1,h2⟩
   ·exact h.elim
 | (o,.b)::r,xs,ys,f,h=>by
   simp only [iQ] at h⊢;split at h
   ·exact tX h
   ·exact h.elim
 | (o,.s)::r,xs,ys,f,h=>by
   simp only [iQ] at h⊢;split at h
   ·exact tX h
   ·exact h.elim
def iO:List (List V)->Option (List UInt8)
 | []=>some []
 | [.int .u8 n]::r=>match iO r with
   |some l=>some (UInt8.ofNat n.toNat::l)
   |none=>none
 |_=>none
def pZ:Option Obj->Option Nat
 |some (.row es _)=>some es
 |some (.bb _)=>some 1
 |_=>none
def jT(l:List UInt8):List (List V):=l.map λb=> [V.int .u8 (b.toNat:Int)]
def fJ:List (List Int×V)->List Int->V->V
 | [],_,z=>z
 | (k,v)::r,j,z=>if k=j then v else fJ r j z
def oI:List (List Int×V)->List Int->Bool
 | [],_=>false
 | (k,_)::r,j=>if k=j then true else oI r j
def iU:List (List Int×V)->List Int->V->List (List Int×V)
 | [],j,v=> [(j,v)]
 | (k,u)::r,j,v=>if k=j then(k,v)::r else(k,u)::iU r j v
def rA(agg:Bool)(es:Nat)(cs:List V)(c n:Nat):V:= if agg then(if c=0/\n=es then .agg cs else .agg ((cs.drop c).take n)) else cs.getD c .any
def gQ(S:aD)(i:I)(e:A->V)(gc:Bool)(K:V->Prop):Prop:=
 match i with
 | .mv x=>K (e x)
 | .un .not x=>match e x with | .bool b=>K (.bool (!b))|_=>gc=false/\K .any
 | .un .neg x=>match e x with | .int k n=>K (.int k (k.wrap (0-n)))|_=>gc=false/\K .any
 | .bin op x y=>match e x,e y with
   | .int k a,.int k' b=>shk op k k'=true/\aF6 op k a b gc K
   |_,_=>gc=false/\K .any
 | .conv k x=>match e x with | .int _ n=>K (.int k (k.wrap n))|_=>gc=false/\K .any
 | .nilck x=>match e x with
   | .ptr k i c=>K (.ptr k i c)
   | .rp es cs c=>K (.rp es cs c)
   |_=>gc=false/\K .any
 | .faddr off x=>match e x with
   | .ptr k i c=>K (.ptr k i (c+off))
   | .rp es cs c=>K (.rp es cs (c+off))
   |_=>gc=false/\K .any
 | .ld agg n x=>match e x with
   | .ptr k i c=>match S.get k with
     |some (.row es xs)=>(gc=true->i<xs.length)/\c+n<=es/\K (rA agg es (xs.getD i []) c n)
     |some (.box cs)=>(gc=true->i=0/\c+n<=cs.length)/\K (rA agg cs.length cs c n)
     |_=>gc=false/\K .any
   | .rp es cs c=>(gc=true->c+n<=es)/\K (rA agg es cs c n)
   |_=>gc=false/\K .any
 | .eqb neg x y=>match e x,e y with
   | .bool p,.bool q=>(match neg with |true=>K (.bool (!(p==q)))|false=>K (.bool (p==q)))
   |_,_=>gc=false/\K .any
 | .eqs neg offs x y=>match e x,e y with
   | .agg xs,.agg ys=>iQ offs xs ys true λr=>(match neg with |true=>K (.bool (!r))|false=>K (.bool r))
   |_,_=>gc=false/\K .any
 | .extr i x=>match e x with
   | .tup vs=>i<vs.length/\K (vs.getD i .any)
   |_=>gc=false/\K .any
 | .fget agg off n x=>match e x with
   | .agg cs=>off+n<=cs.length/\K (rA agg cs.length cs off n)
   |_=>gc=false/\K .any
 | .mkfn f xs=>K (.fn f (xs.map e))
 | .isnil neg x=>match e x with
   | .lst _ _ (_::_)=>K (.bool neg)
   | .val (.slice none _ _)=>K (.bool (!neg))
   | .val (.slice (some _) _ _)=>K (.bool neg)
   |_=>gc=false/\K .any
 | .slc3 es x lo hi mx=>match unk (e x) with
   | .sl k off len=>match S.get k with
     |some (.row es' _)=>
      match(match lo with |none=>V.int .i64 0 |some l=>e l),e hi,e mx with
      | .int _ l,.int _ h,.int _ m=>es'=es/\(gc=true->0<=l/\l<=h/\h=m/\m<=(len:Int))/\K (.slx k (off+l.toNat) (h.toNat-l.toNat))
      |_,_,_=>gc=false/\K .any
     |_=>gc=false/\K .any
   |_=>gc=false/\K .any
 | .iaddr es x i=>match unk (e x),e i with
   | .sl k off len,.int _ j=>match pZ (S.get k) with
     |some es'=>es'=es/\(gc=true->0<=j/\j< (len:Int))/\K (.ptr k (off+j.toNat) 0)
     |_=>gc=false/\K .any
   | .lst es' _ xs,.int _ j=>(gc=true->es'=es/\0<=j/\j< (xs.length:Int))/\K (.rp es (xs.getD j.toNat []) 0)
   |_,_=>gc=false/\K .any
 | .iarr n es x i=>match e x,e i with
   | .ptr k i0 c,.int _ j=>(gc=true->0<=j/\j< (n:Int))/\K (.ptr k i0 (c+j.toNat*es))
   | .rp es' cs c,.int _ j=>(gc=true->0<=j/\j< (n:Int))/\K (.rp es' cs (c+j.toNat*es))
   |_,_=>gc=false/\K .any
 | .aidx n x i=>match e x,e i with
   | .agg cs,.int _ j=>cs.length=n/\(gc=true->0<=j/\j< (n:Int))/\K (cs.getD j.toNat .any)
   |_,_=>gc=false/\K .any
 | .slc es x lo hi=>match unk (e x) with
   | .sl k off len=>match pZ (S.get k) with
     |some es'=>
      match(match lo with |none=>V.int .i64 0 |some l=>e l),(match hi with |none=>V.int .i64 (len:Int)|some h=>e h) with
      | .int _ l,.int _ h=>es'=es/\(gc=true->0<=l/\l<=h/\h<=(len:Int))/\K (.sl k (off+l.toNat) (h.toNat-l.toNat))
      |_,_=>gc=false/\K .any
     |_=>gc=false/\K .any
   | .lst es' _ xs=>
    match(match lo with |none=>V.int .i64 0 |some l=>e l),(match hi with |none=>V.int .i64 (xs.length:Int)|some h=>e h) with
    | .int _ l,.int _ h=>(gc=true->(es'=es\/xs=[])/\0<=l/\l<=h/\h<=(xs.length:Int))/\K (.lst es' false ((xs.take h.toNat).drop l.toNat))
    |_,_=>gc=false/\K .any
   |_=>gc=false/\K .any
 | .len x=>match unk (e x) with
   | .sl _ _ len=>K (.int .i64 (len:Int))
   | .lst _ _ xs=>K (.int .i64 (xs.length:Int))
   |_=>gc=false/\K .any
 | .slen x=>match e x with
   | .str s=>K (.int .i64 (s.size:Int))
   |_=>gc=false/\K .any
 | .sidx x i=>match e x,e i with
   | .str s,.int _ j=>(gc=true->0<=j/\j< (s.size:Int))/\K (.int .u8 ((s.data.toList.getD j.toNat 0).toNat:Int))
   |_,_=>gc=false/\K .any
 | .ssl x lo hi=>match e x with
   | .str s=>match(match lo with |none=>V.int .i64 0 |some l=>e l),(match hi with |none=>V.int .i64 (s.size:Int)|some h=>e h) with
     | .int _ l,.int _ h=>(gc=true->0<=l/\l<=h/\h<=(s.size:Int))/\K (.str (s.extract l.toNat h.toNat))
     |_,_=>gc=false/\K .any
   |_=>gc=false/\K .any
 | .scat x y=>match e x,e y with
   | .str a,.str b=>(gc=true->a.size+b.size<=9223372036854775807)/\K (.str (a++b))
   |_,_=>gc=false/\K .any
 | .sqs neg x y=>match e x,e y with
   | .str a,.str b=>(match neg with |true=>K (.bool (!uW a b))|false=>K (.bool (uW a b)))
   |_,_=>gc=false/\K .any
 | .b2s x=>match unk (e x) with
   | .sl k off len=>match S.get k with
     |some (.row 1 xs)=>match iO ((xs.drop off).take len) with
      |some l=>(gc=true->off+len<=xs.length)/\K (.str ⟨l.toArray⟩)
      |none=>gc=false/\K .any
     |some (.bb l)=>(gc=true->off+len<=l.length)/\K (.str ⟨((l.drop off).take len).toArray⟩)
     |_=>gc=false/\K .any
   | .lst 1 _ xs=>match iO xs with
     |some l=>K (.str ⟨l.toArray⟩)
     |none=>gc=false/\K .any
   |_=>gc=false/\K .any
 | .mx x y=>match e x,e y with
   | .int k a,.int _ b=>K (.int k (max a b))
   |_,_=>gc=false/\K .any
 | .mn x y=>match e x,e y with
   | .int k a,.int _ b=>K (.int k (min a b))
   |_,_=>gc=false/\K .any
 | .mget z ok x i=>match e x,e i with
   | .mp k,.int .i64 j=>match S.get k with
     |some (.mp (1,xs))=>(match ok with |true=>K (.tup [fJ xs [j] z,.bool (oI xs [j])])|false=>K (fJ xs [j] z))
     |_=>gc=false/\K .any
   |_,_=>gc=false/\K .any
 | .mgetp z ok x i=>match e x,e i with
   | .mp k,.agg [.int .i64 a,.int .i64 b]=>match S.get k with
     |some (.mp (2,xs))=>(match ok with |true=>K (.tup [fJ xs [a,b] z,.bool (oI xs [a,b])])|false=>K (fJ xs [a,b] z))
     |_=>gc=false/\K .any
   |_,_=>gc=false/\K .any
 |_=>False
end Go.Sk
namespace Go.Sk
open Go Go.RowKit
variable [gL]
def aA3(w w':World):Prop:=∀b,b<w.heap.size->w'.heap[b]? =w.heap[b]?
theorem aA3.cell {w w':World} (h:aA3 w w') {b o:Nat} (f:b<w.heap.size):w'.cell? ⟨b,o,none⟩=w.cell? ⟨b,o,none⟩:=World.cell?_of_block (w:=w) (h b f)
theorem aA3.refl(w:World):aA3 w w:=λ_ _=>rfl
def iM(P:Program)(U:Nat->Prop)(σ:Sg)(S:aD)(w:World)(ρ:Operand->Value)(o:Op)(K:V->Prop):Prop:= ∃v cv,K v/\VR (Own U σ S) w σ v cv/\∀(w':World) (o':Oper),o'.op=o->aA3 w w'->(execOp ρ o').run P w'=.ok (.value cv) w'
section
variable {P:Program} {U:Nat->Prop} {σ:Sg} {S:aD} {w:World} {n:Nat} {ρ:Operand->Value} {e:A->V} {K:V->Prop}
theorem aLT {O:Nat->Prop} {w:World} {σ:Sg} {agg:Bool} {es:Nat} {cs:List V} {c n:Nat} {cv:Nat->Value} (N:agg=true\/n=1)(M:c+n<=es)(B:cs.length=es)
 (h:∀j y,j<n->cs[c+j]? =some y->VR O w σ y (cv j)):VR O w σ (rA agg es cs c n) (if agg then .agg ((zN n).map cv).toArray else cv 0):=by
 unfold rA
 cases agg with
 |true=>
  simp only [if_true];have z:∀(l:List V),l=(cs.drop c).take n->VR O w σ (.agg l) (.agg ((zN n).map cv).toArray):=by intro l G;refine .agg (by simp [G];omega) λj y v F H=>?_;simp only [List.getElem?_toArray,zX,zA] at H;obtain⟨Q,C,rfl⟩:=H;obtain⟨f,m⟩:=List.getElem?_eq_some_iff.1 C;simp only [List.length_range] at f;simp only [List.getElem_range] at m;subst m;refine h j y f ?_;rw [G,zO] at F;simpa [f] using F
  split
  ·rename_i J;obtain⟨rfl,rfl⟩:=J;exact z _ (by simp [<-B])
  ·exact z _ rfl
 |false=>
  have E:n=1:=by simpa using N
  subst E;simp only [zI,if_false];have D:c<cs.length:=by omega
  refine h 0 _ (by omega) ?_;simp [zE,zD D]
theorem aTW {t:TypeId} {agg:Bool} {Z:Nat} {a:Operand} {x:A} (R:dD P t=some agg)(ac:bG P t=some Z)(hn:agg=true\/Z=1)(hR:aV U σ S w n)
 (Q:VR (Own U σ S) w σ (e x) (ρ a)) (D:gQ S (.ld agg Z x) e true K):iM P U σ S w ρ (.load t a) K:=by
 have O:∀(b o:Nat) (C:Nat->Value),ρ a=.pointer (some ⟨b,o,none⟩)->b<w.heap.size->(∀j,j<Z->w.cell? ⟨b,o+j,none⟩=some (C j))->
  ∀(w':World) (o':Oper),o'.op=.load t a->aA3 w w'->(execOp ρ o').run P w'=.ok (.value (if agg then .agg ((zN Z).map C).toArray else C 0)) w':=by
  intro b o C ha G hc w' o' F W;simp only [execOp,F,Instr.loadAt,Instr.sureAddr,ha,pure_bind,Sem.run_bind];rw [aM9 R ac b o C (λj M=>(W.cell G).trans (hc j M)) (λhf=>by simpa [hf] using hn)];rfl
 unfold gQ at D;simp only at D;split at D
 ·rename_i k i c J;rw [J] at Q;generalize E:ρ a=va at Q
  cases Q with
  | @ptr _ k i c b es cap W=>
    split at D
    ·rename_i aa xs F;obtain⟨hi,z,T⟩:=D;obtain⟨m,G,f⟩:=hR.cells (i:=i) W F (hi trivial);have H:S.cellsAt k i=xs.getD i []:=by unfold aD.cellsAt;rw [F]
     rw [H] at m f;have ab:es=aa:=by have :=hR.obj k _ F;rw [W] at this;exact this.2.1
     subst ab;refine⟨_,_,T,aLT (cv:=λj=>(w.cell? ⟨b,i*es+c+j,none⟩).getD undef) hn z m ?_,O b (i*es+c) _ E G ?_⟩
     ·intro j y M Y;obtain⟨v,B,-,h2⟩:=f (c+j) y Y;rw [<-zF] at B;simpa [B] using h2
     ·intro j M;have N:c+j< (xs.getD i []).length:=by omega
      obtain⟨v,B,-,h2⟩:=f (c+j) _ (zD N);rw [<-zF] at B;simp [B]
    ·rename_i cs F;obtain⟨hh,T⟩:=D;obtain⟨rfl,z⟩:=hh trivial;obtain⟨m,G,f⟩:=hR.cells (i:=0) W F rfl;have H:S.cellsAt k 0=cs:=by unfold aD.cellsAt;rw [F]
     rw [H] at m f;refine⟨_,_,T,aLT (cv:=λj=>(w.cell? ⟨b,0*es+c+j,none⟩).getD undef) hn z rfl ?_,O b (0*es+c) _ E G ?_⟩
     ·intro j y M Y;obtain⟨v,B,-,h2⟩:=f (c+j) y Y;rw [<-zF] at B;simp only [B,zK];exact h2
     ·intro j M;have N:c+j<cs.length:=by omega
      obtain⟨v,B,-,h2⟩:=f (c+j) _ (zD N);rw [<-zF] at B;simp only [B,zK]
    ·exact absurd D.1 (by simp)
 ·rename_i es cs c J;rw [J] at Q;generalize E:ρ a=va at Q
  cases Q with
  | @rp _ es cs c b o C m hO G B h3 h2=> obtain⟨z,T⟩:=D;have z:=z trivial;refine⟨_,_,T,aLT (cv:=λj=>C (c+j)) hn z m (λj y M Y=>(h2 _ _ Y).lift σ),O b (o+c) _ E G λj M=>?_⟩;rw [zF];exact B _ (by omega)
 ·exact absurd D.1 (by simp)
theorem aTX {x:Operand} {a:A} {o:Op} (j:o=.move x\/o=.assign x)(m:VR (Own U σ S) w σ (e a) (ρ x))(f:gQ S (.mv a) e true K):iM P U σ S w ρ o K:= ⟨_,_,f,m,λw' z h _=>by rcases j with rfl |rfl <;> simp [execOp,h]⟩
theorem bRD {op:UnOp} {t:TypeId} {x:Operand} {a:A} (hx:VR (Own U σ S) w σ (e a) (ρ x))(hK:gQ S (.un op a) e true K):iM P U σ S w ρ (.unOp op t x) K:=by
 unfold gQ at hK;cases op <;> simp only at hK
 case not=>
  split at hK
  ·rename_i b hex;rw [hex] at hx;generalize hva:ρ x=va at hx;cases hx
   exact⟨_,_,hK,.bool _,λw' o' h _=>by simp [execOp,h,hva,Op.unary]⟩
  ·exact absurd hK.1 (by simp)
 case neg=>
  split at hK
  ·rename_i k m hex;rw [hex] at hx;generalize hva:ρ x=va at hx;cases hx
   exact⟨_,_,hK,.int _ _,λw' o' h _=>by simp [execOp,h,hva,Op.unary,Op.intArith]⟩
  ·exact absurd hK.1 (by simp)
theorem bE6 {s d:TypeId} {k k0:IntKind} {x:Operand} {a:A} (D:P.underlying s=some (.int k0))(C:P.underlying d=some (.int k))(B:VR (Own U σ S) w σ (e a) (ρ x))(f:gQ S (.conv k a) e true K):iM P U σ S w ρ (.convert s d x) K:=by
 unfold gQ at f;simp only at f;split at f
 ·rename_i k1 m j;rw [j] at B;generalize z:ρ x=F at B;cases B
  exact⟨_,_,f,.int _ _,λw' E h _=>by simp [execOp,h,z,convert,run_underlying D,run_underlying C,Conv.intToInt]⟩
 ·exact absurd f.1 (by simp)
theorem bKV {op:BinOp} {t u:TypeId} {x y:Operand} {a b:A} (hx:VR (Own U σ S) w σ (e a) (ρ x))(hy:VR (Own U σ S) w σ (e b) (ρ y))(hK:gQ S (.bin op a b) e true K):iM P U σ S w ρ (.binOp op t x y u) K:=by
 unfold gQ at hK;simp only at hK;split at hK
 ·rename_i k m k' m' h1 h2;rw [h1] at hx;rw [h2] at hy;generalize hva:ρ x=va at hx;generalize hvb:ρ y=vb at hy;cases hx
  cases hy
  obtain⟨hk,hK⟩:=hK;cases op <;> simp only [aF6] at hK <;> simp only [shk,decide_eq_true_eq] at hk <;>(try subst hk)
  case quo=>exact⟨_,_,hK.2,.int _ _,λw' o' h _=>by simp [execOp,h,hva,hvb,binOp,eqGuard,Op.intDiv,hK.1]⟩
  case rem=>exact⟨_,_,hK.2,.int _ _,λw' o' h _=>by simp [execOp,h,hva,hvb,binOp,eqGuard,Op.intDiv,hK.1]⟩
  case shl=>exact⟨_,_,hK.2,.int _ _,λw' o' h _=>by have :=hK.1 trivial;simp [execOp,h,hva,hvb,binOp,eqGuard,Op.shift,show ¬m'<0 by omega]⟩
  case shr=>exact⟨_,_,hK.2,.int _ _,λw' o' h _=>by have :=hK.1 trivial;simp [execOp,h,hva,hvb,binOp,eqGuard,Op.shift,show ¬m'<0 by omega]⟩
  all_goals first
   |exact⟨_,_,hK,.int _ _,λw' o' h _=>by simp [execOp,h,hva,hvb,binOp,eqGuard,Op.intArith,Op.intBits,gC]⟩
   |exact⟨_,_,hK,.bool _,λw' o' h _=>by simp [execOp,h,hva,hvb,binOp,eqGuard,Op.intCmp]⟩
 ·exact absurd hK.1 (by simp)
theorem bAR {neg:Bool} {op:BinOp} {t u:TypeId} {x y:Operand} {a b:A} (D:P.underlying t=some .bool)(j:op=if neg then .neq else .eql)(B:VR (Own U σ S) w σ (e a) (ρ x))(C:VR (Own U σ S) w σ (e b) (ρ y))(f:gQ S (.eqb neg a b) e true K):iM P U σ S w ρ (.binOp op t x y u) K:=by
 unfold gQ at f;simp only at f;split at f
 ·rename_i p q E h2;rw [E] at B;rw [h2] at C;generalize m:ρ x=H at B;generalize z:ρ y=J at C;cases B
  cases C
  cases neg with
  |true=>subst j;exact⟨_,.bool (!(p==q)),f,.bool _,λG F h _=>by simp [execOp,h,m,z,binOp,eqGuard,Op.equal,Op.maxDepth,run_equalIn_bool' (P:=P) G 9999 t p q D]⟩
  |false=>subst j;exact⟨_,.bool (p==q),f,.bool _,λG F h _=>by simp [execOp,h,m,z,binOp,eqGuard,Op.equal,Op.maxDepth,run_equalIn_bool' (P:=P) G 9999 t p q D]⟩
 ·exact absurd f.1 (by simp)
def jV(P:Program)(O:Nat->Prop)(w:World)(σ:Sg)(xs:List V)(t:TypeId)(o:Nat)(v:Value):Prop:=
 match dD P t,bG P t with
 |some true,some n=>∃arr,v=.agg arr/\∀(i:Nat) (y:V),i<n->xs[o+i]? =some y->∃u,arr[i]? =some u/\VR O w σ y u
 |some false,some _=>∀y,xs[o]? =some y->VR O w σ y v
 |_,_=>False
theorem aGM {O:Nat->Prop} {xs:List V} {arr:Array Value} {o n:Nat} (h:∀(i:Nat) (y:V),i<n->xs[o+i]? =some y->∃u,arr[i]? =some u/\VR O w σ y u) {t:TypeId} {f m:Nat} (hm:bG P t=some m)(E:(dD P t).isSome=true)(G:f+m<=n)(j:dD P t=some false->m=1)
 (D:dD P t=some false->∃y,xs[o+f]? =some y):∃v,jV P O w σ xs t (o+f) v/\∀w',(part t arr f).run P w'=.ok v w':=by
 cases hg:dD P t with
 |none=>rw [hg] at E;cases E
 |some b=>
  cases b with
  |true=> refine⟨.agg (arr.extract f (f+m)),?_,λw'=>by unfold part;simp [kJ hg,bE hm]⟩;unfold jV;rw [hg,hm];refine⟨_,rfl,λi y J C=>?_⟩;obtain⟨u,B,h2⟩:=h (f+i) y (by omega) (by rw [<-C];congr 1;omega);refine⟨u,?_,h2⟩;rw [zS];have H:=(Array.getElem?_eq_some_iff.1 B).1;rw [if_pos (by omega)];exact B
  |false=> obtain⟨y,C⟩:=D hg;have F:=j hg;obtain⟨u,B,h2⟩:=h f y (by omega) C;refine⟨u,?_,λw'=>by unfold part;simp [kJ hg,B]⟩;unfold jV;rw [hg,hm];intro M z;rw [C] at z;obtain rfl:=zsi z;exact h2
theorem bBI {t:TypeId} {d:TypeDesc} (h:P.underlying t=some d):(dD P t).isSome=true:=by unfold dD;rw [h];cases d <;> rfl
theorem aE8 {d:Nat} {t:TypeId} {o:Nat} {l:List (Nat×Kd)} (h:mX P d t o=some l):(dD P t).isSome=true:=by
 cases d with
 |zero=>cases h
 |succ d=>
  simp only [mX] at h
  cases f:P.underlying t with
  |none=>rw [f] at h;cases h
  |some k=>exact bBI f
theorem aLC {d:Nat} {t:TypeId} {o:Nat} {l:List (Nat×Kd)} (h:mX P d t o=some l)(j:dD P t=some false):bG P t=some 1/\∃z,l=[(o,z)]:=by
 cases d with
 |zero=>cases h
 |succ d=>
  simp only [mX] at h;unfold dD at j;split at h
  ·split at h
   ·rename_i f;exact⟨f,_,(zsi h).symm⟩
   ·cases h
  ·split at h
   ·rename_i f;exact⟨f,_,(zsi h).symm⟩
   ·cases h
  ·split at h
   ·rename_i f;exact⟨f,_,(zsi h).symm⟩
   ·cases h
  ·rename_i m;rw [m] at j;cases j
  ·rename_i m;rw [m] at j;cases j
  ·cases h
theorem mJ {xs ys:List V} {k:List (Nat×Kd)} {K:Bool->Prop} :∀ {l:List (Nat×Kd)} {f:Bool},iQ (l++k) xs ys f K->iQ l xs ys f λa=>iQ k xs ys a K
 | [],_,h=>h
 | (o,.i)::r,f,h=>by
   simp only [zQ,iQ] at h⊢;split at h
   ·exact⟨h.1,mJ h.2⟩
   ·exact h.elim
 | (o,.b)::r,f,h=>by
   simp only [zQ,iQ] at h⊢;split at h
   ·exact mJ h
   ·exact h.elim
 | (o,.s)::r,f,h=>by
   simp only [zQ,iQ] at h⊢;split at h
   ·exact mJ h
   ·exact h.elim
theorem aVN {o:Nat} {m:Kd} {r:List (Nat×Kd)} {xs ys:List V} {f:Bool} {K:Bool->Prop} (h:iQ ((o,m)::r) xs ys f K):(∃y,xs[o]? =some y)/\∃y,ys[o]? =some y:=by
 cases m <;> simp only [iQ] at h <;> split at h
 all_goals first
  |exact h.elim
  | (rename_i j h2;exact⟨⟨_,j⟩,⟨_,h2⟩⟩)
  | (rename_i j h2;exact⟨⟨_,by assumption⟩,⟨_,by assumption⟩⟩)
theorem aDV(a b:ByteArray):(a.toList==b.toList)=uW a b:=by rw [ByteArray.toList_eq,ByteArray.toList_eq];rfl
theorem aJZ {O:Nat->Prop} {xs ys:List V} {E F:Array Value} {o n d:Nat} (M:∀(i:Nat) (y:V),i<n->xs[o+i]? =some y->∃u,E[i]? =some u/\VR O w σ y u)
 (N:∀(i:Nat) (y:V),i<n->ys[o+i]? =some y->∃u,F[i]? =some u/\VR O w σ y u) {t:TypeId} {f m:Nat} {l k:List (Nat×Kd)} (D:mX P d t (o+f)=some l) (hm:bG P t=some m) (z:f+m<=n) {C:Bool} {K:Bool->Prop} (H:iQ (l++k) xs ys C K):
 ∃u v,jV P O w σ xs t (o+f) u/\jV P O w σ ys t (o+f) v/\∀w',(part t E f).run P w'=.ok u w'/\(part t F f).run P w'=.ok v w':=by
 have j:dD P t=some false->m=1/\(∃y,xs[o+f]? =some y)/\∃y,ys[o+f]? =some y:=by intro J;obtain⟨B,Q,rfl⟩:=aLC D J;rw [hm] at B;exact⟨zsi B,aVN H⟩
 obtain⟨u,B,h2⟩:=aGM M hm (aE8 D) z (λh=>(j h).1) (λh=>(j h).2.1);obtain⟨v,G,h4⟩:=aGM N hm (aE8 D) z (λh=>(j h).1) (λh=>(j h).2.2);exact⟨u,v,B,G,λw'=>⟨h2 w',h4 w'⟩⟩
theorem aGU {O:Nat->Prop} {xs ys:List V} (D:Nat):∀(d:Nat) (t:TypeId) (o:Nat) (l:List (Nat×Kd)),mX P d t o=some l->∀(a b:Value),jV P O w σ xs t o a->jV P O w σ ys t o b->∀(z:Bool) (K:Bool->Prop),iQ l xs ys z K->
 ∃r,K (z&&r)/\∀w',(Op.equalIn (D+d) t a b).run P w'=.ok r w'
 |0,_,_,_,h=>by cases h
 |d+1,t,o,l,h=>by
  intro a b E F z K B;have ih:=aGU (O:=O) (xs:=xs) (ys:=ys) D d;simp only [mX] at h;unfold jV at E F;split at h
  ·rename_i k0 J;have C:dD P t=some false:=by unfold dD;rw [J]
   split at h
   ·rename_i T;obtain rfl:=zsi h;rw [C,T] at E F;simp only [iQ] at B;split at B
    ·rename_i k x k' y M h2;obtain⟨rfl,B⟩:=B;have E:=E _ M;have F:=F _ h2;cases E
     cases F
     exact⟨_,B,λw'=>run_equalIn_int w' (D+d) t k k0 x y J⟩
    ·exact B.elim
   ·cases h
  ·rename_i J;have C:dD P t=some false:=by unfold dD;rw [J]
   split at h
   ·rename_i T;obtain rfl:=zsi h;rw [C,T] at E F;simp only [iQ] at B;split at B
    ·rename_i x y M h2;have E:=E _ M;have F:=F _ h2;cases E
     cases F
     exact⟨_,B,λw'=>run_equalIn_bool' w' (D+d) t x y J⟩
    ·exact B.elim
   ·cases h
  ·rename_i J;have C:dD P t=some false:=by unfold dD;rw [J]
   split at h
   ·rename_i T;obtain rfl:=zsi h;rw [C,T] at E F;simp only [iQ] at B;split at B
    ·rename_i x y M h2;have E:=E _ M;have F:=F _ h2;cases E
     cases F
     exact⟨_,B,λw'=>by rw [<-aDV];exact run_equalIn_string w' (D+d) t x y J⟩
    ·exact B.elim
   ·cases h
  ·rename_i fs J;have C:dD P t=some true:=by unfold dD;rw [J]
   split at h
   ·rename_i n T;split at h
    ·rename_i ac;rw [C,T] at E F;obtain⟨Z,rfl,hx⟩:=E;obtain⟨ay,rfl,hy⟩:=F;have aa:P.fieldsOf t=fs:=by unfold Program.fieldsOf;rw [J]
     have Q:∀(fl:List Field) (l:List (Nat×Kd)) (z:Bool),aLA (mX P d) P n o fl=some l->iQ l xs ys z K->∃r,K (z&&r)/\∀w',(Op.eqFields (D+d) Z ay fl).run P w'=.ok r w':=by
      intro fl
      induction fl with
      |nil=>intro l z H B;obtain rfl:=zsi H;exact⟨true,by simpa [iQ] using B,λw'=>by simp [Op.eqFields]⟩
      |cons f fl ae=>
       intro l z H B;simp only [aLA] at H;split at H
       ·rename_i l1 m k1 M h2 h3;split at H
        ·rename_i h4;obtain rfl:=zsi H;obtain⟨u,v,c1,c2,c3⟩:=aJZ hx hy M h2 h4.2 B;obtain⟨r1,q1,q2⟩:=ih f.type _ l1 M u v c1 c2 z _ (mJ B);obtain⟨r2,q3,q4⟩:=ae k1 _ h3 q1;refine⟨r1&&r2,by rw [<-Bool.and_assoc];exact q3,λw'=>?_⟩;simp only [Op.eqFields,ne_eq,h4.1,not_false_eq_true,if_true,Sem.run_bind,(c3 w').1,(c3 w').2,Result.andThen_ok,q2]
         cases r1 with
         |true=>simp [q4]
         |false=>simp
        ·cases H
       ·cases H
     obtain⟨r,q1,q2⟩:=Q fs.toList l z h B;refine⟨r,q1,λw'=>?_⟩;rw [<-zF,run_equalIn_agg (P:=P) w' (D+d) t Z ay (by rw [aa];exact J) ac,aa];exact q2 w'
    ·cases h
   ·cases h
  ·rename_i n e J;have C:dD P t=some true:=by unfold dD;rw [J]
   split at h
   ·rename_i es m G T;split at h
    ·rename_i hm;subst hm;rw [C,T] at E F;obtain⟨Z,rfl,hx⟩:=E;obtain⟨ay,rfl,hy⟩:=F
     obtain⟨N,W,af⟩:∃N,P.info? e=some N/\N.size=es:=by
      unfold bG at G
      cases hc:P.info? e with
      |none=>rw [hc] at G;cases G
      |some N=>rw [hc] at G;exact⟨N,rfl,zsi G⟩
     have R:P.cellsOf e=es:=by have M:=run_sizeOf (P:=P) w W;rw [bE G] at M;have :=(Result.ok.inj M).1;exact this.symm
     have Y:∀(c j:Nat) (l:List (Nat×Kd)) (z:Bool),j+c<=n->aLB (λo=>mX P d e o) es c (o+j*es)=some l->iQ l xs ys z K->∃r,K (z&&r)/\∀w',(Op.eqItems (D+d) e es Z ay (List.range' j c)).run P w'=.ok r w':=by
      intro c
      induction c with
      |zero=>intro j l z _ H B;obtain rfl:=zsi H;exact⟨true,by simpa [iQ] using B,λw'=>by simp [Op.eqItems]⟩
      |succ c ad=>
       intro j l z hj H B;simp only [aLB] at H;split at H
       ·rename_i l1 k1 M h3;obtain rfl:=zsi H;have ab:j*es+es<=n*es:=by have :=Nat.mul_le_mul_right es (show j+1<=n by omega);rw [zM,Nat.one_mul] at this;exact this
        obtain⟨u,v,c1,c2,c3⟩:=aJZ hx hy M G ab B;obtain⟨r1,q1,q2⟩:=ih e _ l1 M u v c1 c2 z _ (mJ B);obtain⟨r2,q3,q4⟩:=ad (j+1) k1 _ (by omega) (by rw [zM,Nat.one_mul,<-zF];exact h3) q1;refine⟨r1&&r2,by rw [<-Bool.and_assoc];exact q3,λw'=>?_⟩;simp only [List.range'_succ,Op.eqItems,Sem.run_bind,(c3 w').1,(c3 w').2,Result.andThen_ok,q2]
        cases r1 with
        |true=>simp [q4]
        |false=>simp
       ·cases H
     obtain⟨r,q1,q2⟩:=Y n 0 l z (by omega) (by simpa using h) B;refine⟨r,q1,λw'=>?_⟩;rw [<-zF,run_equalIn_array (P:=P) w' (D+d) Z ay J W,R,List.range_eq_range'];exact q2 w'
    ·cases h
   ·cases h
  ·cases h
theorem aM1 {neg:Bool} {l:List (Nat×Kd)} {op:BinOp} {t u:TypeId} {x y:Operand} {a b:A} (z:dD P t=some true)(j:eqTy P t=some l)(E:op=if neg then .neq else .eql)
 (Y:VR (Own U σ S) w σ (e a) (ρ x)) (B:VR (Own U σ S) w σ (e b) (ρ y)) (D:gQ S (.eqs neg l a b) e true K):iM P U σ S w ρ (.binOp op t x y u) K:=by
 unfold gQ at D;simp only at D;unfold eqTy at j;split at j
 ·rename_i hg;split at D
  ·rename_i p q h1 h2;rw [h1] at Y;rw [h2] at B;generalize G:ρ x=va at Y;generalize H:ρ y=vb at B
   cases Y with
   | @agg _ _ M R O=>
   cases B with
   | @agg _ _ N T Q=>
   have Z:∃n,bG P t=some n:=by
    simp only [mX] at j;unfold dD at z;split at j
    ·rename_i F;rw [F] at z;cases z
    ·rename_i F;rw [F] at z;cases z
    ·rename_i F;rw [F] at z;cases z
    ·split at j
     ·exact⟨_,by assumption⟩
     ·cases j
    ·split at j
     ·exact⟨_,by assumption⟩
     ·cases j
    ·cases j
   obtain⟨n0,Z⟩:=Z;have f:∀ {J:List V} {C:Array Value},C.size=J.length->(∀(i:Nat) (y:V) (v:Value),J[i]? =some y->C[i]? =some v->VR (Own U σ S) w σ y v)->jV P (Own U σ S) w σ J t 0 (.agg C):=by intro J C hn h;unfold jV;rw [z,Z];refine⟨C,rfl,λi y _ B=>?_⟩;rw [zY] at B;obtain⟨hi,-⟩:=List.getElem?_eq_some_iff.1 B;have :=zC (xs:=C) (i:=i) (by omega);exact⟨_,this,h i y _ B this⟩
   obtain⟨r,W,m⟩:=aGU 9992 8 t 0 l j (.agg M) (.agg N) (f R O) (f T Q) true _ D;rw [zU] at W
   cases neg with
   |true=>subst E;exact⟨_,.bool (!r),W,.bool _,λw' o' h _=>by simp [execOp,h,G,H,run_eqGuard_agg (P:=P) w' _ t x y M N hg,run_neq_struct,m]⟩
   |false=>subst E;exact⟨_,.bool r,W,.bool _,λw' o' h _=>by simp [execOp,h,G,H,run_eqGuard_agg (P:=P) w' _ t x y M N hg,run_eql_struct,m]⟩
  ·exact absurd D.1 (by simp)
 ·cases j
theorem aCG {t:TypeId} {f:Array Field} (h:P.underlying t=some (.struct f)):dD P t=some true:=by unfold dD;rw [h]
theorem aEW {t e:TypeId} {n:Nat} (h:P.underlying t=some (.array n e)):dD P t=some true:=by unfold dD;rw [h]
theorem bE8 {t:TypeId} {R:Array Field} {f:Nat} {z:Field} {agg:Bool} {m:Nat} {x:Operand} {a:A} (ht:P.underlying t=some (.struct R))(hf:R[f]? =some z)(hg:dD P z.type=some agg)(hz:bG P z.type=some m)(hn:agg=true\/m=1)
 (Q:VR (Own U σ S) w σ (e a) (ρ x)) (B:gQ S (.fget agg z.offset m a) e true K):iM P U σ S w ρ (.field t x f) K:=by
 unfold gQ at B;simp only at B;split at B
 ·rename_i W T;rw [T] at Q;generalize O:ρ x=va at Q;obtain⟨aa,B⟩:=B
  cases Q with
  | @agg _ _ j D h=>
    have C:∀(F:World) (E:Oper) (v:Value),E.op=.field t x f->(part z.type j z.offset).run P F=.ok v F->(execOp ρ E).run P F=.ok (.value v) F:=by intro F E v J hp;simp [execOp,J,Instr.field,O,run_underlying ht,hf,asAgg,hp]
    cases agg with
    |true=>
     refine⟨_,.agg (j.extract z.offset (z.offset+m)),B,?_,λF E J _=>C F E _ J ?_⟩
     ·simp only [rA,if_true];split
      ·rename_i Y;obtain⟨N,Z⟩:=Y
       have :j.extract z.offset (z.offset+m)=j:=by
        apply Array.ext
        ·simp [D];omega
        ·intro i T h2;simp [N]
       rw [this];exact .agg D h
      ·refine .agg (by simp [D];omega) λi y v G M=>?_;rw [zO] at G;split at G
       ·rw [zV] at G;rw [zS] at M;split at M
        ·exact h _ y v G M
        ·cases M
       ·cases G
     ·simp [part,kJ hg,bE hz]
    |false=>
     have hm:m=1:=by simpa using hn
     subst hm;have H:z.offset<j.size:=by omega
     refine⟨_,j[z.offset],B,?_,λF E J _=>C F E _ J ?_⟩
     ·simp only [rA,zI,if_false];have :z.offset<W.length:=by omega
      exact h _ _ _ (by simp [zE,zD this]) (zC H)
     ·simp [part,kJ hg,zC H]
 ·exact absurd B.1 (by simp)
theorem aHH:∀ {l:List Operand} {xs:List A},l.mapM bK=some xs->xs.length=l.length/\∀(i:Nat) x a,l[i]? =some x->xs[i]? =some a->bK x=some a
 | [],xs,h=>by simp at h;subst h;simp
 |o::r,xs,h=>by
  rw [List.mapM_cons] at h
  cases f:bK o with
  |none=>simp [f] at h
  |some a=>
   cases h2:r.mapM bK with
   |none=>simp [f,h2] at h
   |some ys=>
    simp [f,h2] at h;subst h;obtain⟨e1,z⟩:=aHH h2;refine⟨by simp [e1],λi x b m j=>?_⟩
    cases i with
    |zero=>simp only [zJ,zse] at m j;subst m j;exact f
    |succ i=>simp only [zP] at m j;exact z i x b m j
theorem bEB {f:FuncId} {first j:Array Operand} {xs:List A} (H:first.toList=[])(B:j.toList.mapM bK=some xs)(G:∀x a,bK x=some a->VR (Own U σ S) w σ (e a) (ρ x))(E:gQ S (.mkfn f xs) e true K):
 iM P U σ S w ρ (.makeFunc (.func f) first j) K:=by
 obtain⟨J,m⟩:=aHH B;have z:first = #[]:=by simpa using H
 refine⟨_,.func (.func f) #[] (j.map ρ),E,.fn (by simp [J]) λi y v C D=>?_,λw' O M _=>by simp [execOp,M,Instr.makeFunc,z]⟩;rw [zX,zA] at C;obtain⟨a,F,rfl⟩:=C;rw [Array.getElem?_map,zA] at D;obtain⟨x,N,rfl⟩:=D;exact G x a (m i x a (by simpa using N) F)
theorem aNX {t el:TypeId} (f:P.underlying t=some (.slice el))(d:Nat)(b:Option Addr)(l c:Nat)(w':World):
 (Op.equalIn (d+1) t (.slice b l c) (.slice none 0 0)).run P w'=.ok b.isNone w':=by
 cases b <;> simp [Op.equalIn,run_underlying f]
theorem aJF {t el:TypeId} (f:P.underlying t=some (.slice el))(b:Option Addr)(l c:Nat)(w':World):
 (Op.equal t (.slice b l c) (.slice none 0 0)).run P w'=.ok b.isNone w':=aNX f 9999 b l c w'
theorem aBI {op:BinOp} (h:op=.eql\/op=.neq) {t:TypeId} {x y:Operand} (b f:Option Addr)(l c l' j:Nat)(w':World):
 (eqGuard op t x y (.slice b l c) (.slice f l' j)).run P w'=.ok () w':=by
 rcases h with rfl |rfl <;> simp [eqGuard]
theorem aP9 {neg:Bool} {op:BinOp} {t u el:TypeId} {x:Operand} {a:A} (H:P.underlying t=some (.slice el))(F:op=if neg then .neq else .eql)(Q:∀v,ρ (.const v)=v)
 (j:VR (Own U σ S) w σ (e a) (ρ x)) (z:gQ S (.isnil neg a) e true K):iM P U σ S w ρ (.binOp op t x (.const (.slice none 0 0)) u) K:=by
 have C:∀(b:Option Addr) (l c:Nat),ρ x=.slice b l c->∀(D:World) (m:Oper),m.op=.binOp op t x (.const (.slice none 0 0)) u->(execOp ρ m).run P D=.ok (.value (.bool (if neg then !b.isNone else b.isNone))) D:=by
  intro b l c O D m B;unfold execOp;rw [B];simp only [O,Q]
  cases neg with
  |true=> obtain rfl:op=.neq:=F;rw [show binOp .neq t (.slice b l c) (.slice none 0 0)=(do pure (.bool (!(<-Op.equal t (.slice b l c) (.slice none 0 0))))) from rfl];simp only [Sem.run_bind,aBI (.inr rfl),Result.andThen_ok,aJF H,Sem.run_pure,if_true]
  |false=> obtain rfl:op=.eql:=F;rw [show binOp .eql t (.slice b l c) (.slice none 0 0)=(do pure (.bool (<-Op.equal t (.slice b l c) (.slice none 0 0)))) from rfl];simp only [Sem.run_bind,aBI (.inl rfl),Result.andThen_ok,aJF H,Sem.run_pure,zI,if_false]
 unfold gQ at z;simp only at z;split at z
 ·rename_i es Z x0 xs E;rw [E] at j;generalize f:ρ x=J at j
  cases j with
  | @lst _ _ _ _ M cap b o W N R G T q1 Y q2=> obtain⟨rfl,-⟩:=N (by simp);refine⟨_,.bool neg,z,.bool _,λD m B _=>?_⟩;rw [C _ _ _ f D m B];cases neg <;> rfl
 ·rename_i l c E;rw [E] at j;generalize f:ρ x=J at j;cases j
  refine⟨_,.bool (!neg),z,.bool _,λD m B _=>?_⟩;rw [C _ _ _ f D m B];cases neg <;> rfl
 ·rename_i M l c E;rw [E] at j;generalize f:ρ x=J at j;cases j
  refine⟨_,.bool neg,z,.bool _,λD m B _=>?_⟩;rw [C _ _ _ f D m B];cases neg <;> rfl
 ·exact absurd z.1 (by simp)
theorem bAV {x:Operand} {a:A} (m:VR (Own U σ S) w σ (e a) (ρ x))(j:gQ S (.nilck a) e true K):iM P U σ S w ρ (.nilCheck x) K:=by
 unfold gQ at j;simp only at j;split at j
 ·rename_i z;rw [z] at m;generalize f:ρ x=J at m
  cases m with
  |ptr G=>exact⟨_,_,j,.ptr G,λw' H h _=>by simp [execOp,h,f]⟩
 ·rename_i z;rw [z] at m;generalize f:ρ x=J at m
  cases m with
  |rp b o C B E F z D h2=>exact⟨_,_,j,.rp b o C B E F z D h2,λw' H h _=>by simp [execOp,h,f]⟩
 ·exact absurd j.1 (by simp)
theorem bE7 {i:Nat} {x:Operand} {a:A} (B:VR (Own U σ S) w σ (e a) (ρ x))(f:gQ S (.extr i a) e true K):iM P U σ S w ρ (.extract x i) K:=by
 unfold gQ at f;simp only at f;split at f
 ·rename_i vs D;rw [D] at B;generalize z:ρ x=G at B
  cases B with
  | @tup _ _ j E h=> obtain⟨C,f⟩:=f;have m:i<j.size:=E▸C;refine⟨_,j[i],f,h i _ _ ?_ (zC m),λw' F h _=>by simp [execOp,h,z,Instr.extract,zC m]⟩;simp [zE,zD C]
 ·exact absurd f.1 (by simp)
theorem bAS {s:TypeId} {M:Array Field} {f:Nat} {B:Field} {m:Nat} {x:Operand} {a:A} (W:P.underlying s=some (.struct M))(T:M[f]? =some B)(Z:bG P B.type=some (m+1))
 (D:VR (Own U σ S) w σ (e a) (ρ x)) (C:gQ S (.faddr B.offset a) e true K):iM P U σ S w ρ (.fieldAddr s x f) K:=by
 have G:∀(b o:Nat),ρ x=.pointer (some ⟨b,o,none⟩)->∀(H:World) (z:Oper),z.op=.fieldAddr s x f->(execOp ρ z).run P H=.ok (.value (.pointer (some ⟨b,o+B.offset,none⟩))) H:=by intro b o Y H z h;simp [execOp,h,Instr.fieldAt,run_underlying W,T,Instr.sureAddr,Y,fieldPlace,bE Z,kW]
 unfold gQ at C;simp only at C;split at C
 ·rename_i k i c E;rw [E] at D;generalize j:ρ x=va at D
  cases D with
  | @ptr _ _ _ _ b es cap J=>exact⟨_,.pointer (some ⟨b,i*es+(c+B.offset),none⟩),C,.ptr J,λH z h _=>by rw [G _ _ j H z h,zF]⟩
 ·rename_i es cs c E;rw [E] at D;generalize j:ρ x=va at D
  cases D with
  |rp b o N F Q R E O h2=>exact⟨_,.pointer (some ⟨b,o+(c+B.offset),none⟩),C,.rp b o N F Q R E O h2,λH z h _=>by rw [G _ _ j H z h,zF]⟩
 ·exact absurd C.1 (by simp)
theorem dR(k:IntKind)(j:Int):asIntOf (.int k j)=pure (k,j):=rfl
theorem aU6(m:aV U σ S w n) {k es' b es cap:Nat} (h:pZ (S.get k)=some es')(z:σ k=some (some b,es,cap)):es=es':=by
 unfold pZ at h;split at h
 ·rename_i j;have :=m.obj k _ j;rw [z] at this;exact this.2.1.trans (zsi h)
 ·rename_i j;obtain⟨_,_,f,-⟩:=m.obj k _ j;rw [z] at f;simp only [zse,Prod.mk.injEq] at f;rw [f.2.1];exact zsi h
 ·cases h
theorem bAT {t el:TypeId} {es:Nat} {x i:Operand} {a b:A} (ht:P.underlying t=some (.slice el))(hz:bG P el=some es)(hR:aV U σ S w n)
 (E:VR (Own U σ S) w σ (e a) (ρ x)) (F:VR (Own U σ S) w σ (e b) (ρ i)) (m:gQ S (.iaddr es a b) e true K):iM P U σ S w ρ (.indexAddr t x i) K:=by
 replace E:=oQ E
 have R:∀(k:IntKind) (j:Int) (D o len cap:Nat),ρ x=.slice (some ⟨D,o,none⟩) len cap->ρ i=.int k j->0<=j->j< (len:Int)->
  ∀(T:World) (M:Oper),M.op=.indexAddr t x i->(execOp ρ M).run P T=.ok (.value (.pointer (some ⟨D,o+j.toNat*es,none⟩))) T:=by
  intro k j D o len cap N h2 h3 h4 T M h;simp [execOp,h,Instr.indexAt,N,h2,dR,run_underlying ht,h3,h4,bE hz,kW]
 unfold gQ at m;simp only at m;split at m
 ·rename_i k Q len k2 j N h2;rw [N] at E;rw [h2] at F;generalize C:ρ x=va at E;generalize J:ρ i=vb at F;cases F
  split at m
  ·rename_i z ho;obtain⟨rfl,hj,m⟩:=m;obtain⟨H,B⟩:=hj trivial
   cases E with
   | @sl _ _ _ _ D es cap ad hs ae W=>
     have G:es=z:=aU6 hR ho hs;subst G;have f:Q<cap:=by omega
     have O:=W f;rw [O] at C;refine⟨_,.pointer (some ⟨D,(Q+j.toNat)*es+0,none⟩),m,.ptr hs,λT M h _=>?_⟩;rw [R _ _ _ _ _ _ C J H B T M h];simp [zM]
   |sl0 hs=>simp only [Int.ofNat_eq_natCast,zR] at B;omega
  ·exact absurd m.1 (by simp)
 ·rename_i z t' xs k2 j N h2;rw [N] at E;rw [h2] at F;generalize C:ρ x=va at E;generalize J:ρ i=vb at F;cases F
  obtain⟨hj,m⟩:=m;obtain⟨rfl,H,B⟩:=hj trivial
  cases E with
  | @lst _ _ _ _ ad cap D o cv W G ac af Z ab aa=>
    have f:j.toNat<xs.length:=by omega
    obtain⟨rfl,hO,hb⟩:=W (by rintro rfl;simp at f);have hg:xs.getD j.toNat []=xs[j.toNat]:=by simp [zE,zD f]
    refine⟨_,.pointer (some ⟨D,(o+j.toNat*z)+0,none⟩),m,?_,λT M h _=>?_⟩
    ·rw [hg];exact .rp D (o+j.toNat*z) (λc=>cv j.toNat c) (G _ (zZ f)) hO hb (λc Y=>Z _ _ f Y) (λc Y=>ab _ _ f Y) λc y F=>aa _ _ c y (zD f) F
    ·rw [R _ _ _ _ _ _ C J H B T M h];rfl
 ·exact absurd m.1 (by simp)
theorem bE9 {t el:TypeId} {m es:Nat} {x i:Operand} {a b:A} (ht:P.underlying t=some (.array m el))(hz:bG P el=some es)
 (H:VR (Own U σ S) w σ (e a) (ρ x)) (J:VR (Own U σ S) w σ (e b) (ρ i)) (f:gQ S (.iarr m es a b) e true K):iM P U σ S w ρ (.indexAddr t x i) K:=by
 have O:∀(k:IntKind) (j:Int) (z o:Nat),ρ x=.pointer (some ⟨z,o,none⟩)->ρ i=.int k j->0<=j->j< (m:Int)->
  ∀(Q:World) (G:Oper),G.op=.indexAddr t x i->(execOp ρ G).run P Q=.ok (.value (.pointer (some ⟨z,o+j.toNat*es,none⟩))) Q:=by
  intro k j z o B h2 R h4 Q G h;simp [execOp,h,Instr.indexAt,B,h2,dR,run_underlying ht,R,h4,bE hz,kW,Instr.sureAddr]
 unfold gQ at f;simp only at f;split at f
 ·rename_i k i0 c k2 j B h2;rw [B] at H;rw [h2] at J;generalize E:ρ x=va at H;generalize F:ρ i=vb at J;cases J
  obtain⟨T,f⟩:=f;obtain⟨C,D⟩:=T trivial
  cases H with
  | @ptr _ _ _ _ z M cap hs=> refine⟨_,.pointer (some ⟨z,i0*M+(c+j.toNat*es),none⟩),f,.ptr hs,λQ G h _=>?_⟩;rw [O _ _ _ _ E F C D Q G h,zF]
 ·rename_i M cs c k2 j B h2;rw [B] at H;rw [h2] at J;generalize E:ρ x=va at H;generalize F:ρ i=vb at J;cases J
  obtain⟨T,f⟩:=f;obtain⟨C,D⟩:=T trivial
  cases H with
  |rp z o W N Y Z B R h2=> refine⟨_,.pointer (some ⟨z,o+(c+j.toNat*es),none⟩),f,.rp z o W N Y Z B R h2,λQ G h _=>?_⟩;rw [O _ _ _ _ E F C D Q G h,zF]
 ·exact absurd f.1 (by simp)
theorem bE5 {t el:TypeId} {m:Nat} {x i:Operand} {a b:A} (Q:P.underlying t=some (.array m el))(J:dD P el=some false/\bG P el=some 1)
 (G:VR (Own U σ S) w σ (e a) (ρ x)) (H:VR (Own U σ S) w σ (e b) (ρ i)) (f:gQ S (.aidx m a b) e true K):iM P U σ S w ρ (.index t x i) K:=by
 unfold gQ at f;simp only at f;split at f
 ·rename_i M k j N h2;rw [N] at G;rw [h2] at H;generalize E:ρ x=Y at G;generalize F:ρ i=Z at H;cases H
  obtain⟨R,O,f⟩:=f;obtain⟨C,D⟩:=O trivial
  cases G with
  | @agg _ _ z T h=>
    have B:j.toNat<z.size:=by omega
    refine⟨_,z[j.toNat],f,h j.toNat _ _ ?_ (zC B),λw' W h _=>?_⟩
    ·have :j.toNat<M.length:=by omega
     simp [zE,zD this]
    ·simp [execOp,h,Instr.index,E,F,dR,run_underlying Q,C,D,bE J.2,part,kJ J.1,zC B]
 ·exact absurd f.1 (by simp)
theorem bKW {t el:TypeId} {ty:TypeId} {x:Operand} {a:A} (G:P.underlying t=some (.slice el))(o:Op)(R:o=.call { callee:=.builtin .len,args:= #[x],argTypes:= #[t] })
 (m:VR (Own U σ S) w σ (e a) (ρ x)) (z:gQ S (.len a) e true K):iM P U σ S w ρ o K:=by
 replace m:=oQ m;have B:∀(E:Option Addr) (len cap:Nat),ρ x=.slice E len cap->∀(C:World) (j:Oper),j.op=o->(execOp ρ j).run P C=.ok (.value (.int .i64 (len:Int))) C:=by intro E len cap D C j h;simp [execOp,h,R,resolve,invoke,builtin,Builtin.len_,D,run_underlying G,goInt]
 unfold gQ at z;simp only at z;split at z
 ·rename_i k W len D;rw [D] at m;generalize f:ρ x=Y at m
  cases m with
  |sl T Q H=>exact⟨_,_,z,.int _ _,λC j h _=>B _ _ _ f C j h⟩
  |sl0 T=>exact⟨_,_,z,.int _ _,λC j h _=>B _ _ _ f C j h⟩
 ·rename_i es t' xs D;rw [D] at m;generalize f:ρ x=Y at m
  cases m with
  |lst b o Z H O F G J N M=>exact⟨_,_,z,.int _ _,λC j h _=>B _ _ _ f C j h⟩
 ·exact absurd z.1 (by simp)
theorem bKX {x y:Operand} {a b:A} {F:Array TypeId} (o:Op)(E:o=.call { callee:=.builtin .max,args:= #[x,y],argTypes:=F })
 (B:VR (Own U σ S) w σ (e a) (ρ x)) (C:VR (Own U σ S) w σ (e b) (ρ y)) (f:gQ S (.mx a b) e true K):iM P U σ S w ρ o K:=by
 unfold gQ at f;simp only at f;split at f
 ·rename_i k m G H D h2;rw [D] at B;rw [h2] at C;generalize j:ρ x=M at B;generalize z:ρ y=N at C;cases B
  cases C
  refine⟨_,_,f,.int _ _,λw' J h _=>?_⟩;simp [execOp,h,E,resolve,invoke,builtin,Builtin.max_,Builtin.max2,j,z];omega
 ·exact absurd f.1 (by simp)
theorem bKY {x y:Operand} {a b:A} {F:Array TypeId} (o:Op)(E:o=.call { callee:=.builtin .min,args:= #[x,y],argTypes:=F })
 (B:VR (Own U σ S) w σ (e a) (ρ x)) (C:VR (Own U σ S) w σ (e b) (ρ y)) (f:gQ S (.mn a b) e true K):iM P U σ S w ρ o K:=by
 unfold gQ at f;simp only at f;split at f
 ·rename_i k m G H D h2;rw [D] at B;rw [h2] at C;generalize j:ρ x=M at B;generalize z:ρ y=N at C;cases B
  cases C
  refine⟨_,_,f,.int _ _,λw' J h _=>?_⟩;simp [execOp,h,E,resolve,invoke,builtin,Builtin.min_,Builtin.min2,j,z];omega
 ·exact absurd f.1 (by simp)
def bnd(ρ:Operand->Value)(o:Option Operand)(d:Int)(j:Int):Prop:=
 match o with
 |none=>j=d
 |some x=>∃k,ρ x=.int k j
theorem aAX {t el:TypeId} {es:Nat} {x:Operand} {lo hi:Option Operand} (D:P.underlying t=some (.slice el))(F:bG P el=some es)
 {G:Option Addr} {len cap:Nat} {l h:Int} (E:ρ x=.slice G len cap) (O:bnd ρ lo 0 l) (B:bnd ρ hi (len:Int) h) (N:len<=cap) (J:0<=l) (M:l<=h) (h2:h<=(len:Int))
 (w':World) (o':Oper) (C:o'.op=.slice t x lo hi none):
 (execOp ρ o').run P w'=.ok (.value (.slice (if cap=l.toNat then G else G.map (·.add (l.toNat*es))) (h.toNat-l.toNat) (cap-l.toNat))) w':=by
 have j:h<=(cap:Int):=by omega
 have f:0<=h:=by omega
 have el:((h.toNat:Nat):Int)=h:=zT f
 cases lo with
 |none=>
  obtain rfl:l=0:=O
  cases hi with
  |none=> obtain rfl:h=(len:Int):=B;simp [execOp,C,Instr.sliceAt,run_underlying D,Instr.slice,E,Instr.sliceBounds,bE F]
  |some y=> obtain⟨k,H⟩:=B;simp [execOp,C,Instr.sliceAt,run_underlying D,Instr.slice,E,Instr.sliceBounds,bE F,H,Instr.sliceBound,dR,f,j]
 |some z=>
  obtain⟨Q,m⟩:=O
  cases hi with
  |none=> obtain rfl:h=(len:Int):=B;simp [execOp,C,Instr.sliceAt,run_underlying D,Instr.slice,E,Instr.sliceBounds,bE F,m,Instr.sliceBound,dR,J,M]
  |some y=> obtain⟨k,H⟩:=B;simp [execOp,C,Instr.sliceAt,run_underlying D,Instr.slice,E,Instr.sliceBounds,bE F,H,m,Instr.sliceBound,dR,f,j,J,el,M]
theorem aM2 {t el:TypeId} {es:Nat} {x:Operand} {lo hi:Option Operand} {a:A} {la ha:Option A} (ht:P.underlying t=some (.slice el))(hz:bG P el=some es)(hR:aV U σ S w n)
 (C:VR (Own U σ S) w σ (e a) (ρ x))
 (T:match lo,la with |none,none=>True |some l,some l'=>VR (Own U σ S) w σ (e l') (ρ l)|_,_=>False)
 (Q:match hi,ha with |none,none=>True |some l,some l'=>VR (Own U σ S) w σ (e l') (ρ l)|_,_=>False)
 (m:gQ S (.slc es a la ha) e true K):iM P U σ S w ρ (.slice t x lo hi none) K:=by
 replace C:=oQ C
 have bl:∀(o:Option Operand) (oa:Option A) (d j:Int) (k:IntKind),(match o,oa with |none,none=>True |some l,some l'=>VR (Own U σ S) w σ (e l') (ρ l)|_,_=>False)->
  (match oa with |none=>V.int .i64 d |some l=>e l)=.int k j->bnd ρ o d j:=by
  intro o oa d j k B h2
  cases o with
  |none=>
   cases oa with
   |none=>simp only [V.int.injEq] at h2;exact h2.2.symm
   |some _=>exact B.elim
  |some x=>
   cases oa with
   |none=>exact B.elim
   |some x'=>
    simp only at B h2;rw [h2] at B;generalize hv:ρ x=v at B;cases B
    exact⟨k,hv⟩
 unfold gQ at m;simp only at m;split at m
 ·rename_i k aa len B;rw [B] at C;generalize D:ρ x=va at C;split at m
  ·rename_i E ho;split at m
   ·rename_i k1 l k2 h e1 e2;obtain⟨rfl,hb,m⟩:=m;obtain⟨b0,b1,H⟩:=hb trivial;have B1:=bl lo la 0 l k1 T e1;have B2:=bl hi ha (len:Int) h k2 Q e2
    cases C with
    | @sl _ _ _ _ J ab cap ad hs ag F=> have G:ab=E:=aU6 hR ho hs;subst G;refine⟨_,_,m,?_,λw' Z z _=>aAX ht hz D B1 B2 (by omega) b0 b1 H w' Z z⟩;rw [show cap-aa-l.toNat=cap- (aa+l.toNat) by omega];refine .sl hs (by omega) λhlt=>?_;rw [if_neg (by omega),F (by omega)];simp [kW,zM]
    |sl0 hs=>
     simp only [zR] at H;obtain rfl:l=0:=by omega
     obtain rfl:h=0:=by omega
     exact⟨_,_,m,.sl0 hs,λw' Z z _=>by rw [aAX ht hz D B1 B2 (by omega) b0 b1 H w' Z z];rfl⟩
   ·exact absurd m.1 (by simp)
  ·exact absurd m.1 (by simp)
 ·rename_i E t' xs B;rw [B] at C;generalize D:ρ x=va at C;split at m
  ·rename_i k1 l k2 h e1 e2;obtain⟨hb,m⟩:=m;obtain⟨b3,b0,b1,H⟩:=hb trivial;have B1:=bl lo la 0 l k1 T e1;have B2:=bl hi ha (xs.length:Int) h k2 Q e2
   cases C with
   | @lst _ _ _ _ ad cap J o cv F G N ai ac af ae=>
     have f:(yA l.toNat (yC h.toNat xs)).length=h.toNat-l.toNat:=by simp;omega
     have O:∀i,i<h.toNat-l.toNat->(yA l.toNat (yC h.toNat xs))[i]? =xs[l.toNat+i]? :=by intro i hi;rw [zV,zO,if_pos (by omega)]
     refine⟨_,.slice (if cap=l.toNat then ad else ad.map (·.add (l.toNat*es))) (yA l.toNat (yC h.toNat xs)).length (cap-l.toNat),m,?_,λw' Z z _=>?_⟩
     ·refine .lst J (o+l.toNat*E) (λi c=>cv (l.toNat+i) c) (λah=>?_) (λx C=>G x (List.mem_of_mem_take (List.mem_of_mem_drop C))) (by rw [f];omega) (by simp) (λi c hi hc=>?_) (λi c hi hc=>af _ _ (by rw [f] at hi;omega) hc) λi x c y hi hy=>?_
      ·have W:0< (yA l.toNat (yC h.toNat xs)).length:=List.length_pos_iff.2 ah;rw [f] at W;have Y:xs≠ []:=by rintro rfl;simp at H;omega
       obtain⟨rfl,hO,M⟩:=F Y;rw [if_neg (by omega)];rcases b3 with rfl |h
       ·exact⟨by simp [kW],hO,M⟩
       ·exact absurd h Y
      ·rw [f] at hi;have :=ac (l.toNat+i) c (by omega) hc;rw [zM,<-zF] at this;exact this
      ·obtain⟨R,_⟩:=List.getElem?_eq_some_iff.1 hi;rw [f] at R;rw [O i R] at hi;exact ae _ _ _ _ hi hy
     ·rw [aAX ht hz D B1 B2 N b0 b1 H w' Z z,f]
  ·exact absurd m.1 (by simp)
 ·exact absurd m.1 (by simp)
theorem aEP {t el:TypeId} {es:Nat} {x hi mx:Operand} {lo:Option Operand} (G:P.underlying t=some (.slice el))(J:bG P el=some es)
 {m:Option Addr} {len cap:Nat} {l h:Int} {k1 k2:IntKind} (H:ρ x=.slice m len cap) (E:bnd ρ lo 0 l) (D:ρ hi=.int k1 h) (hm:ρ mx=.int k2 h) (C:len<=cap) (M:0<=l) (N:l<=h) (h2:h<=(len:Int))
 (w':World) (o':Oper) (F:o'.op=.slice t x lo (some hi) (some mx)):
 (execOp ρ o').run P w'=.ok (.value (.slice (if h.toNat=l.toNat then m else m.map (·.add (l.toNat*es))) (h.toNat-l.toNat) (h.toNat-l.toNat))) w':=by
 have j:h<=(cap:Int):=by omega
 have f:0<=h:=by omega
 have el:((h.toNat:Nat):Int)=h:=zT f
 cases lo with
 |none=> obtain rfl:l=0:=E;simp [execOp,F,Instr.sliceAt,run_underlying G,Instr.slice,H,Instr.sliceBounds,bE J,D,hm,Instr.sliceBound,dR,f,j,el]
 |some z=> obtain⟨O,B⟩:=E;simp [execOp,F,Instr.sliceAt,run_underlying G,Instr.slice,H,Instr.sliceBounds,bE J,D,hm,B,Instr.sliceBound,dR,f,j,M,el,N]
theorem aTY {t el:TypeId} {es:Nat} {x hi mx:Operand} {lo:Option Operand} {a ha ma:A} {M:Option A} (ht:P.underlying t=some (.slice el))(hz:bG P el=some es)(hR:aV U σ S w n)
 (H:VR (Own U σ S) w σ (e a) (ρ x))
 (f:match lo,M with |none,none=>True |some l,some l'=>VR (Own U σ S) w σ (e l') (ρ l)|_,_=>False)
 (B:VR (Own U σ S) w σ (e ha) (ρ hi)) (C:VR (Own U σ S) w σ (e ma) (ρ mx))
 (j:gQ S (.slc3 es a M ha ma) e true K):iM P U σ S w ρ (.slice t x lo (some hi) (some mx)) K:=by
 replace H:=oQ H;unfold gQ at j;simp only at j;split at j
 ·rename_i k ac len h1;rw [h1] at H;generalize E:ρ x=va at H;split at j
  ·rename_i O xs ho;split at j
   ·rename_i k1 l k2 h k3 m e1 e2 e3;obtain⟨rfl,hb,j⟩:=j;obtain⟨Z,b1,rfl,N⟩:=hb trivial;rw [e2] at B;rw [e3] at C;generalize F:ρ hi=vh at B;generalize G:ρ mx=vm at C;cases B
    cases C
    have Y:bnd ρ lo 0 l:=by
     cases lo with
     |none=>
      cases M with
      |none=>simp only [V.int.injEq] at e1;exact e1.2.symm
      |some _=>exact f.elim
     |some z=>
      cases M with
      |none=>exact f.elim
      |some z'=>
       simp only at f e1;rw [e1] at f;generalize hv:ρ z=v at f;cases f
       exact⟨_,hv⟩
    cases H with
    | @sl _ _ _ _ aa Q cap ad J ab R=>
      have T:Q=O:=by have :=hR.obj k _ ho;rw [J] at this;exact this.2.1
      subst T;refine⟨_,_,j,?_,λw' W D _=>aEP ht hz E Y F G (by omega) Z b1 N w' W D⟩;refine .slx J (by omega) λhlt=>?_;rw [if_neg (by omega),R (by omega)];simp [kW,zM]
    |sl0 J=>
     simp only [zR] at N;obtain rfl:l=0:=by omega
     obtain rfl:h=0:=by omega
     exact⟨_,_,j,.slx0 J,λw' W D _=>by rw [aEP ht hz E Y F G (by omega) Z b1 N w' W D];rfl⟩
   ·exact absurd j.1 (by simp)
  ·exact absurd j.1 (by simp)
 ·exact absurd j.1 (by simp)
structure KeyLaw(P:Program)(kt:TypeId)(key:List Int):Prop where
 chk:∀em w,(Instr.checkKey em 10000 kt (kyV key)).run P w=.ok () w
 stay:∀w,(Instr.keyThatStays (kyV key) (kyV key)).run P w=.ok (kyV key) w
 find:∀(O:Nat->Prop) (w:World) (z:V) (l:List MapEntry) (xs:List (List Int×V)),l.length=xs.length->(∀(i:Nat) (p:List Int×V),xs[i]? =some p->∃en,l[i]? =some en/\(p.1.length=key.length/\en.key=kyV p.1)/\VR O w (λ_=>none) p.2 en.val)->
  ((∀w',(Instr.findKey kt (kyV key) l).run P w'=.ok none w')/\oI xs key=false/\fJ xs key z=z/\(∀v,iU xs key v=xs++ [(key,v)]))\/
  ∃idx val,(∀w',(Instr.findKey kt (kyV key) l).run P w'=.ok (some (idx,val)) w')/\oI xs key=true/\VR O w (λ_=>none) (fJ xs key z) val/\idx<xs.length/\(∀p,xs[idx]? =some p->p.1=key)/\(∀v,iU xs key v=xs.set idx (key,v))
theorem aD1 {O:Nat->Prop} {R:List MapEntry->Nat->Option (Nat×Value)->Prop} (key:List Int)(B:∀i,R [] i none)(m:∀en l i,en.key=kyV key->R (en::l) i (some (i,en.val)))
 (f:∀en l i k r,k.length=key.length->k≠key->en.key=kyV k->R l (i+1) r->R (en::l) i r) (z:V):
 ∀(l:List MapEntry) (xs:List (List Int×V)) (i0:Nat),l.length=xs.length->(∀(i:Nat) (p:List Int×V),xs[i]? =some p->∃en,l[i]? =some en/\(p.1.length=key.length/\en.key=kyV p.1)/\VR O w (λ_=>none) p.2 en.val)->
 (R l i0 none/\oI xs key=false/\fJ xs key z=z/\(∀v,iU xs key v=xs++ [(key,v)]))\/
 ∃idx val,R l i0 (some (i0+idx,val))/\oI xs key=true/\VR O w (λ_=>none) (fJ xs key z) val/\idx<xs.length/\(∀p,xs[idx]? =some p->p.1=key)/\(∀v,iU xs key v=xs.set idx (key,v))
 | [],[],i0,_,_=>.inl ⟨B i0,rfl,rfl,λ_=>rfl⟩
 | [],_::_,_,h,_=>by simp at h
 |_::_,[],_,h,_=>by simp at h
 |en::l,(k,v)::xs,i0,h,G=>by
  obtain⟨D,J,⟨F,h2⟩,M⟩:=G 0 (k,v) rfl;obtain rfl:en=D:=by simpa using J
  by_cases j:k=key
  ·subst j;refine .inr ⟨0,en.val,m _ _ _ h2,by simp [oI],by simpa [fJ] using M,by simp,λp C=>?_,λu=>by simp [iU]⟩;simp only [zJ,zse] at C;rw [<-C]
  ·rcases aD1 key B m f z l xs (i0+1) (by simpa using h) (λi p C=>by simpa using G (i+1) p (by simpa using C)) with ⟨q1,q2,E,H⟩| ⟨idx,val,q1,q2,E,H,N,Q⟩
   ·exact .inl ⟨f _ _ _ _ _ F j h2 q1,by simp [oI,j,q2],by simp [fJ,j,E],λu=>by simp [iU,j,H u]⟩
   ·refine .inr ⟨idx+1,val,?_,by simp [oI,j,q2],by simpa [fJ,j] using E,by simp;omega,λp C=>N p (by simpa using C),λu=>by simp [iU,j,Q u]⟩;have :=f en l i0 k _ F j h2 q1
    rwa [show i0+(idx+1)=i0+1+idx by omega]
theorem KeyLaw.int {kt:TypeId} (hk:P.underlying kt=some (.int .i64))(j:Int):KeyLaw P kt [j] where
 chk em w:=MapKept.run_checkKey (k:=.int .i64 j) hk (by simp [MapKept.IsKey]) em 9999
 stay w:=MapKept.run_keyThatStays (d:=.int .i64) (k:=.int .i64 j) (by simp [MapKept.IsKey])
 find O w z l xs hl hx:=by
  rcases aD1 (O:=O) (w:=w) (R:=λl i r=>Instr.findNow (.int .i64) (.int .i64 j) l i=some r) [j] (λ_=>rfl) (λen l i he=>by simp [Instr.findNow,Instr.sameNow,he,kyV])
   (λen l i k r hkl hne he hr=>by
    match k,hkl with
    | [n],_=>
      have hnj:(j==n)=false:=by simpa using λe:j=n=>hne (by rw [e])
      simpa [Instr.findNow,Instr.sameNow,he,kyV,hnj] using hr) z l xs 0 hl hx with ⟨q1,q2⟩| ⟨idx,val,q1,q2⟩
  ·exact .inl ⟨λw'=>MapKept.run_findKey hk q1,q2⟩
  ·rw [zY] at q1;exact .inr ⟨idx,val,λw'=>MapKept.run_findKey hk q1,q2⟩
theorem aCB {D:TypeId} {j:Array Field} (H:P.underlying D=some (.struct j)) {cs:Array Value} (F:∀f∈j.toList,P.underlying f.type=some (.int .i64)/\dD P f.type=some false/\f.offset<cs.size)(z:Bool)(n:Nat):
 (Instr.checkKey z (n+2) D (.agg cs)).run P w=.ok () w:=by
 have one:∀f∈j.toList,∃v,(part f.type cs f.offset).run P w=.ok v w/\(Instr.checkKey z (n+1) f.type v).run P w=.ok () w:=λf G=>by obtain⟨m,h2,E⟩:=F f G;refine⟨cs[f.offset],by simp [part,kJ h2,zC E],?_⟩;unfold Instr.checkKey;simp only [Sem.run_bind,run_underlying m,Result.andThen_ok];rfl
 unfold Instr.checkKey;simp only [Sem.run_bind,run_underlying H,Result.andThen_ok];rw [<-Array.forIn_toList];generalize j.toList=l at one
 induction l with
 |nil=>simp
 |cons f r C=>
  obtain⟨v,m,h2⟩:=one f (by simp);rw [List.forIn_cons]
  by_cases B:f.name= "_"
  ·simp only [B,ne_eq,not_true_eq_false,if_false];simp only [Sem.run_bind,Sem.run_pure,Result.andThen_ok];exact C λg hg=>one g (by simp [hg])
  ·simp only [B,ne_eq,not_false_eq_true,if_true];simp only [Sem.run_bind,m,h2,Sem.run_pure,Result.andThen_ok];exact C λg hg=>one g (by simp [hg])
theorem uR {t:TypeId} (C:dD P t=some true)(B:mX P 8 t 0=some [(0,.i),(1,.i)])(D:bG P t=some 2)(a b c d:Int)(w:World):
 (Op.equal t (.agg #[.int .i64 a,.int .i64 b]) (.agg #[.int .i64 c,.int .i64 d])).run P w=.ok (decide ([c,d]=[a,b])) w:=by
 have f:∀x y:Int,jV P (λ_=>False) w (λ_=>none) [.int .i64 x,.int .i64 y] t 0 (.agg #[.int .i64 x,.int .i64 y]):=λx y=>by
  unfold jV;rw [C,D];refine⟨_,rfl,λi u E m=>?_⟩
  match i with
  |0=>simp at m;subst m;exact⟨_,rfl,.int _ _⟩
  |1=>simp at m;subst m;exact⟨_,rfl,.int _ _⟩
  |i+2=>omega
 obtain⟨r,z,j⟩:=aGU 9992 8 t 0 _ B _ _ (f a b) (f c d) true (λr=>r=(true&&(a==c)&&(b==d))) ⟨rfl,rfl,rfl⟩;rw [zU] at z;rw [show(Op.equal t (.agg #[.int .i64 a,.int .i64 b]) (.agg #[.int .i64 c,.int .i64 d]))=Op.equalIn (9992+8) t (.agg #[.int .i64 a,.int .i64 b]) (.agg #[.int .i64 c,.int .i64 d]) from rfl,j w,z]
 congr 1
 rw [Bool.eq_iff_iff];simp only [zL,zU,zbe,decide_eq_true_iff,List.cons.injEq,and_true];constructor <;> rintro ⟨rfl,rfl⟩<;> exact⟨rfl,rfl⟩
theorem aRC {j:TypeId} {z:Array Field} (h:aHX P j z=true):dD P j=some true/\bG P j=some 2/\mX P 8 j 0=some [(0,.i),(1,.i)]/\∀f∈z.toList,P.underlying f.type=some (.int .i64)/\dD P f.type=some false/\f.offset<2:=by
 unfold aHX at h;rw [zL] at h;obtain⟨C,h2⟩:=h;split at C
 ·rename_i e1 D E;refine⟨e1,D,E,λf G=>?_⟩;have :=List.all_eq_true.1 h2 f G;rw [zL,zL] at this;obtain⟨m,B,F⟩:=this;refine⟨?_,?_,by simp [Nat.blt] at F;omega⟩
  ·unfold bGG at m;split at m
   ·assumption
   ·cases m
  ·split at B
   ·assumption
   ·cases B
 ·cases C
theorem KeyLaw.pair {m:TypeId} {H:Array Field} (J:P.underlying m=some (.struct H))(W:aHX P m H=true)(a b:Int):KeyLaw P m [a,b]:=by
 obtain⟨M,N,Q,G⟩:=aRC W;have B:∀(l:List MapEntry) (r:Option (Nat×Value)),(∀j,(Instr.findAsking m (.agg #[.int .i64 a,.int .i64 b]) l).run P j=.ok r j)->∀j,(Instr.findKey m (kyV [a,b]) l).run P j=.ok r j:=λl r h j=>by have e:=run_findKey_eq (P:=P) j (k:=m) (by rw [J]) (kyV [a,b]) l;rw [e];exact h j
 refine⟨λem w=>aCB (cs:= #[.int .i64 a,.int .i64 b]) J (λf D=>⟨(G f D).1,(G f D).2.1,(G f D).2.2⟩) em 9998,λw=>?_,λO w z l xs T Z=>?_⟩
 ·simp [Instr.keyThatStays,kyV,Instr.sameBits]
 ·rcases aD1 (O:=O) (w:=w) (R:=λl i r=>∀j,(Instr.findAsking m (.agg #[.int .i64 a,.int .i64 b]) l i).run P j=.ok r j) [a,b] (λ_ _=>rfl)
   (λen l i C j=>by simp only [Instr.findAsking,Sem.run_bind,C,kyV,List.map_cons,List.map_nil,uR M Q N,Result.andThen_ok,decide_true,if_true];rfl)
   (λen l i k r E F C Y j=>by
    match k,E with
    | [c,d],_=> simp only [Instr.findAsking,Sem.run_bind,C,kyV,List.map_cons,List.map_nil,uR M Q N,Result.andThen_ok,F,decide_false,zI,if_false];exact Y j) z l xs 0 T Z with ⟨q1,q2⟩| ⟨idx,val,q1,q2⟩
  ·exact .inl ⟨B l _ q1,q2⟩
  ·rw [zY] at q1;exact .inr ⟨idx,val,B l _ q1,q2⟩
theorem aPA {t kt el:TypeId} {H:Value} {z:V} {ok:Bool} {x i:Operand} {key:List Int} {k:Nat} {xs:List (List Int×V)} {vx:Value} {K:V->Prop} (ht:P.underlying t=some (.map kt el))(hL:KeyLaw P kt key)(hz:(P.info? el).bind (·.zero)=some H)(ac:vOf H=some z)
 (hR:aV U σ S w n) (Q:ρ x=vx) (hx:VR (Own U σ S) w σ (.mp k) vx) (hi:ρ i=kyV key) (ho:S.get k=some (.mp (key.length,xs)))
 (hK:match ok with |true=>K (.tup [fJ xs key z,.bool (oI xs key)])|false=>K (fJ xs key z)):iM P U σ S w ρ (.lookup t x i ok) K:=by
 cases hx with
 | @mp _ k J ad cap j=>
   have O:=hR.obj k _ ho;rw [j] at O;obtain⟨b',hl,es,ck,hh,ab,M⟩:=O;simp only [zse,Prod.mk.injEq] at hl;obtain⟨rfl,-,-⟩:=hl;have Y:J<w.heap.size:=(Array.getElem?_eq_some_iff.1 hh).1
   obtain⟨m,N,E⟩:∃m,P.info? el=some m/\m.zero=some H:=by
    cases hc:P.info? el with
    |none=>simp [hc] at hz
    |some m=>exact⟨m,rfl,by simpa [hc] using hz⟩
   have T:∃F,VR (Own U σ S) w σ (fJ xs key z) F/\∀(f:World),aA3 w f->(Instr.lookup t (.map (some J)) (kyV key) ok).run P f=.ok (if ok=true then .tuple #[F,.bool (oI xs key)] else F) f:=by
    have W:∀(f:World) (G:Option (Nat×Value)) (_:aA3 w f),(∀f,(Instr.findKey kt (kyV key) es.toList).run P f=.ok G f)->
     (Instr.lookup t (.map (some J)) (kyV key) ok).run P f=.ok (if ok=true then .tuple #[match G with |some (_,v)=>v |none=>H,.bool G.isSome] else match G with |some (_,v)=>v |none=>H) f:=by
     intro f G j Z;have aa:f.heap[J]? =some (.map es ck):=(j J Y).trans hh;unfold Instr.lookup;simp only [Sem.run_bind,run_underlying ht,Result.andThen_ok,MapKept.run_getObj_map aa,Sem.run_pure,hL.chk,Z]
     cases G with
     |none=>cases ok <;> simp [zeroValue,typeInfo,N,E,Result.andThen]
     |some p=>obtain⟨p1,p2⟩:=p;cases ok <;> simp [Result.andThen]
    rcases hL.find (Own U σ S) w z es.toList xs (by simpa using ab) (λi p hp=>by simpa using M i p hp) with ⟨q1,q2,q3,-⟩| ⟨idx,val,q1,q2,q3,-,-,-⟩
    ·refine⟨H,by rw [q3];exact aRY ac _ _ _,λf j=>?_⟩;rw [W f _ j q1,q2];rfl
    ·refine⟨val,q3.lift σ,λf j=>?_⟩;rw [W f _ j q1,q2];rfl
   obtain⟨F,hv,C⟩:=T
   cases ok with
   |true=>
    refine⟨_,.tuple #[F,.bool (oI xs key)],hK,.tup rfl (λi y v R B=>?_),λf o' D j=>?_⟩
    ·match i with
     |0=>simp at R B;subst R B;exact hv
     |1=>simp at R B;subst R B;exact .bool _
     |i+2=>simp at R
    ·simp only [execOp,D,Q,hi,Sem.run_bind,C f j,Result.andThen_ok];rfl
   |false=> refine⟨_,F,hK,hv,λf o' D j=>?_⟩;simp only [execOp,D,Q,hi,Sem.run_bind,C f j,Result.andThen_ok];rfl
theorem bEA {t E el:TypeId} {F:Value} {z:V} {ok:Bool} {x i:Operand} {a b:A} (M:P.underlying t=some (.map E el))(H:P.underlying E=some (.int .i64))(N:(P.info? el).bind (·.zero)=some F)(C:vOf F=some z)
 (G:aV U σ S w n) (D:VR (Own U σ S) w σ (e a) (ρ x)) (hi:VR (Own U σ S) w σ (e b) (ρ i)) (f:gQ S (.mget z ok a b) e true K):iM P U σ S w ρ (.lookup t x i ok) K:=by
 unfold gQ at f;simp only at f;split at f
 ·rename_i k j m B;rw [m] at D;rw [B] at hi;split at f
  ·rename_i xs J;refine aPA M (KeyLaw.int H j) N C G rfl D ?_ J f;generalize ρ i=O at hi;cases hi;rfl
  ·exact absurd f.1 (by simp)
 ·exact absurd f.1 (by simp)
theorem aTS {O:Nat->Prop} {w:World} {σ:Sg} {a b:Int} {v:Value} (h:VR O w σ (.agg [.int .i64 a,.int .i64 b]) v):v=kyV [a,b]:=by
 cases h with
 | @agg _ _ f B j=>
   rcases f with ⟨l⟩
   match l,B with
   | [x,y],_=>
     have m:=j 0 _ x rfl rfl;have z:=j 1 _ y rfl rfl;cases m
     cases z
     rfl
theorem bAU {t C el:TypeId} {D:Array Field} {F:Value} {z:V} {ok:Bool} {x i:Operand} {a b:A} (N:P.underlying t=some (.map C el))(H:P.underlying C=some (.struct D))(M:aHX P C D=true)(O:(P.info? el).bind (·.zero)=some F)(B:vOf F=some z)
 (G:aV U σ S w n) (E:VR (Own U σ S) w σ (e a) (ρ x)) (hi:VR (Own U σ S) w σ (e b) (ρ i)) (f:gQ S (.mgetp z ok a b) e true K):iM P U σ S w ρ (.lookup t x i ok) K:=by
 unfold gQ at f;simp only at f;split at f
 ·rename_i k c d j m;rw [j] at E;rw [m] at hi;split at f
  ·rename_i xs J;exact aPA N (KeyLaw.pair H M c d) O B G rfl E (aTS hi) J f
  ·exact absurd f.1 (by simp)
 ·exact absurd f.1 (by simp)
theorem bAW {o:Op} {i:I} (h:aPI P o=some i)(H:∀v,ρ (.const v)=v)(E:aV U σ S w n)(f:∀x a,bK x=some a->VR (Own U σ S) w σ (e a) (ρ x))(B:gQ S i e true K):iM P U σ S w ρ o K:=by
 unfold aPI at h;split at h
 ·simp only [zA] at h;obtain⟨a,j,rfl⟩:=h;exact aTX (.inl rfl) (f _ _ j) B
 ·simp only [zA] at h;obtain⟨a,j,rfl⟩:=h;exact aTX (.inr rfl) (f _ _ j) B
 ·split at h
  ·obtain rfl:=zsi h;exact B.elim
  ·cases h
 ·simp only [zA] at h;obtain⟨a,j,rfl⟩:=h;exact bRD (f _ _ j) B
 ·split at h
  ·rename_i j h2 m;obtain rfl:=zsi h;exact bKV (f _ _ h2) (f _ _ m) B
  ·rename_i j h2 m;split at h
   ·obtain rfl:=zsi h;exact bAR j rfl (f _ _ h2) (f _ _ m) B
   ·obtain rfl:=zsi h;exact bAR j rfl (f _ _ h2) (f _ _ m) B
   ·cases h
  ·rename_i j h2 m;split at h
   ·rename_i G;obtain rfl:=zsi h;exact aM1 (aCG j) G rfl (f _ _ h2) (f _ _ m) B
   ·rename_i G;obtain rfl:=zsi h;exact aM1 (aCG j) G rfl (f _ _ h2) (f _ _ m) B
   ·cases h
  ·rename_i j h2 m;split at h
   ·rename_i G;obtain rfl:=zsi h;exact aM1 (aEW j) G rfl (f _ _ h2) (f _ _ m) B
   ·rename_i G;obtain rfl:=zsi h;exact aM1 (aEW j) G rfl (f _ _ h2) (f _ _ m) B
   ·cases h
  ·rename_i j h2 m;split at h
   ·obtain rfl:=zsi h;exact aP9 j rfl H (f _ _ h2) B
   ·obtain rfl:=zsi h;exact aP9 j rfl H (f _ _ h2) B
   ·cases h
  ·cases h
 ·split at h
  ·rename_i j h2 m;obtain rfl:=zsi h;exact bE6 j h2 (f _ _ m) B
  ·cases h
 ·simp only [zA] at h;obtain⟨a,j,rfl⟩:=h;exact bAV (f _ _ j) B
 ·split at h
  ·rename_i j h2;split at h
   ·rename_i m;split at h
    ·rename_i h4;obtain rfl:=zsi h;exact bAS j m h4 (f _ _ h2) B
    ·cases h
   ·cases h
  ·cases h
 ·split at h
  ·rename_i j h2 m;split at h
   ·rename_i h4;obtain rfl:=zsi h;exact aTW j h2 h4 E (f _ _ m) B
   ·cases h
  ·cases h
 ·simp only [zA] at h;obtain⟨a,j,rfl⟩:=h;exact bE7 (f _ _ j) B
 ·split at h
  ·rename_i j h2 m;split at h
   ·rename_i h4 h5;simp only [zA] at h;obtain⟨z,F,rfl⟩:=h;exact bEA j h4 h5 F E (f _ _ h2) (f _ _ m) B
   ·rename_i h4 h5;split at h
    ·rename_i J;simp only [zA] at h;obtain⟨z,F,rfl⟩:=h;exact bAU j h4 J h5 F E (f _ _ h2) (f _ _ m) B
    ·cases h
   ·cases h
  ·cases h
 ·split at h
  ·rename_i j h2 m;simp only [zA] at h;obtain⟨z,h4,rfl⟩:=h;exact bAT j h4 E (f _ _ h2) (f _ _ m) B
  ·rename_i j h2 m;simp only [zA] at h;obtain⟨z,h4,rfl⟩:=h;exact bE9 j h4 (f _ _ h2) (f _ _ m) B
  ·cases h
 ·split at h
  ·rename_i j h2 m;split at h
   ·rename_i h4;obtain rfl:=zsi h;exact bE5 j h4 (f _ _ h2) (f _ _ m) B
   ·cases h
  ·cases h
 ·split at h
  ·rename_i j h2;split at h
   ·rename_i m;split at h
    ·rename_i h4 h5;split at h
     ·rename_i F;obtain rfl:=zsi h;exact bE8 j m h4 h5 F (f _ _ h2) B
     ·cases h
    ·cases h
   ·cases h
  ·cases h
 ·split at h
  ·rename_i j;simp only [zA] at h;obtain⟨z,h4,rfl⟩:=h;exact bEB j h4 f B
  ·cases h
 ·split at h
  ·rename_i j h2 m h4;split at h
   ·rename_i h5;obtain rfl:=zsi h;exact aTY j h5 E (f _ _ h2) trivial (f _ _ m) (f _ _ h4) B
   ·rename_i h5;simp only [zA] at h;obtain⟨z,F,rfl⟩:=h;exact aTY j h5 E (f _ _ h2) (f _ _ F) (f _ _ m) (f _ _ h4) B
   ·cases h
  ·cases h
 ·split at h
  ·rename_i j h2;split at h
   ·rename_i m;obtain rfl:=zsi h;exact aM2 j m E (f _ _ h2) trivial trivial B
   ·rename_i m;simp only [zA] at h;obtain⟨z,h4,rfl⟩:=h;exact aM2 j m E (f _ _ h2) (f _ _ h4) trivial B
   ·rename_i m;simp only [zA] at h;obtain⟨z,h4,rfl⟩:=h;exact aM2 j m E (f _ _ h2) trivial (f _ _ h4) B
   ·rename_i m;split at h
    ·rename_i h4 h5;obtain rfl:=zsi h;exact aM2 j m E (f _ _ h2) (f _ _ h4) (f _ _ h5) B
    ·cases h
   ·cases h
  ·cases h
 ·rename_i C D;split at h
  ·rename_i x t j h2;split at h
   ·rename_i m h4;obtain rfl:=zsi h;obtain rfl:C= #[x]:=Array.toList_inj.1 j;obtain rfl:D= #[t]:=Array.toList_inj.1 h2;exact bKW (ty:=0) m _ rfl (f _ _ h4) B
   ·cases h
  ·cases h
 ·rename_i C M;split at h
  ·rename_i x y j;split at h
   ·rename_i m h4;obtain rfl:=zsi h;obtain rfl:C= #[x,y]:=Array.toList_inj.1 j;exact bKX _ rfl (f _ _ m) (f _ _ h4) B
   ·cases h
  ·cases h
 ·rename_i C M;split at h
  ·rename_i x y j;split at h
   ·rename_i m h4;obtain rfl:=zsi h;obtain rfl:C= #[x,y]:=Array.toList_inj.1 j;exact bKY _ rfl (f _ _ m) (f _ _ h4) B
   ·cases h
  ·cases h
 ·cases h
end
end Go.Sk
