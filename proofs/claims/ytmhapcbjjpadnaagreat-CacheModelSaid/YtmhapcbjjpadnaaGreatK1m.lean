/- Caches. -/
import Derived.WalkKit
import Derived.WalkSpells
import Derived.WalkLawsBesides
import Derived.Laws.StructEq
import Derived.MapKept
import Derived.ChangeKeysEq
import Derived.WideKeyRuns
set_option linter.unusedSimpArgs false
set_option linter.unusedVariables false
open Array renaming getElem?_eq_getElem→zC,getElem?_extract→zS
open BitVec renaming ofInt→zH
open Bool renaming false_eq_true→zI,and_eq_true→zL,true_and→zU
open Int renaming natCast_zero→zR,toNat_of_nonneg→zT
open List renaming getElem?_eq_getElem→zD,getD_eq_getElem?_getD→zE,getElem?_cons_zero→zJ,range→zN,getElem?_take→zO,getElem?_cons_succ→zP,cons_append→zQ,getElem?_drop→zV,getElem?_map→zX,getElem_mem→zZ,drop→yA,take→yB
open Nat renaming add_assoc→zF,lt_of_lt_of_le→zG,add_mul→zM,le_trans→zW,zero_add→zY
open Option renaming map_eq_some_iff→zA,getD_some→zK
set_option linter.unusedSectionVars false
namespace Go.Sk
open Go Go.RowKit
inductive V where
 |any
 |int (k:IntKind) (n:Int)
 |bool (b:Bool)
 |str (s:ByteArray)
 |agg (cs:List V)
 |tup (vs:List V)
 |nil
 |ptr (k:Nat) (i c:Nat)
 |rp (es:Nat) (cs:List V) (c:Nat)
 |sl (k:Nat) (off len:Nat)
 |slx (k:Nat) (off len:Nat)
 |slk (k:Nat) (off len c:Nat)
 |lst (es:Nat) (t:Bool) (xs:List (List V))
 |fn (f:Nat) (caps:List V)
 |mp (k:Nat)
 |val (v:Value)
abbrev Sg:=Nat→Option (Option Nat×Nat×Nat)
inductive VR(O:Nat→Prop)(w:World):Sg→V→Value→Prop
 |any {σ:Sg} (v:Value):VR O w σ .any v
 |int {σ:Sg} (k:IntKind) (n:Int):VR O w σ (.int k n) (.int k n)
 |bool {σ:Sg} (b:Bool):VR O w σ (.bool b) (.bool b)
 |str {σ:Sg} (s:ByteArray):VR O w σ (.str s) (.string s)
 |agg {σ:Sg} {cs:List V} {arr:Array Value} (hn:arr.size=cs.length) (h:∀(i:Nat) (y:V) (v:Value),cs[i]? =some y→arr[i]? =some v→VR O w σ y v):VR O w σ (.agg cs) (.agg arr)
 |tup {σ:Sg} {cs:List V} {arr:Array Value} (hn:arr.size=cs.length) (h:∀(i:Nat) (y:V) (v:Value),cs[i]? =some y→arr[i]? =some v→VR O w σ y v):VR O w σ (.tup cs) (.tuple arr)
 |nil {σ:Sg} :VR O w σ .nil (.pointer none)
 |ptr {σ:Sg} {k i c b es cap:Nat} (h:σ k=some (some b,es,cap)):VR O w σ (.ptr k i c) (.pointer (some ⟨b,i*es+c,none⟩))
 |rp {σ:Sg} {es:Nat} {cs:List V} {c:Nat} (b o:Nat) (cv:Nat→Value) (hn:cs.length=es) (hO:¬O b) (hb:b<w.heap.size)
  (h1:∀j,j<es→w.cell? ⟨b,o+j,none⟩=some (cv j)) (h3:∀j,j<es→(cv j).oneCell'=true) (h2:∀(j:Nat) (y:V),cs[j]? =some y→VR O w (fun _=>none) y (cv j)):VR O w σ (.rp es cs c) (.pointer (some ⟨b,o+c,none⟩))
 |sl {σ:Sg} {k off len b es cap:Nat} {a:Option Addr} (h:σ k=some (some b,es,cap)) (hle:off+len≤cap) (ha:off<cap→a=some ⟨b,off*es,none⟩):VR O w σ (.sl k off len) (.slice a len (cap-off))
 |slx {σ:Sg} {k off len b es cap:Nat} {a:Option Addr} (h:σ k=some (some b,es,cap)) (hle:off+len≤cap) (ha:0<len→a=some ⟨b,off*es,none⟩):VR O w σ (.slx k off len) (.slice a len len)
 |slx0 {σ:Sg} {k es:Nat} {a:Option Addr} (h:σ k=some (none,es,0)):VR O w σ (.slx k 0 0) (.slice a 0 0)
 |slk {σ:Sg} {k off len c b es cap:Nat} {a:Option Addr} (h:σ k=some (some b,es,cap)) (hle:off+len≤cap) (ha:off<cap→a=some ⟨b,off*es,none⟩) (hc:c=cap-off):VR O w σ (.slk k off len c) (.slice a len c)
 |slk0 {σ:Sg} {k es:Nat} {a:Option Addr} (h:σ k=some (none,es,0)):VR O w σ (.slk k 0 0 0) (.slice a 0 0)
 |sl0 {σ:Sg} {k es:Nat} {a:Option Addr} (h:σ k=some (none,es,0)):VR O w σ (.sl k 0 0) (.slice a 0 0)
 |lst {σ:Sg} {es:Nat} {t:Bool} {xs:List (List V)} {a:Option Addr} {cap:Nat} (b o:Nat) (cv:Nat→Nat→Value)
  (ha:xs≠ []→a=some ⟨b,o,none⟩∧¬O b∧b<w.heap.size) (hes:∀x∈xs,x.length=es) (hcap:xs.length≤cap) (ht:t=true→cap=xs.length)
  (h1:∀(i c:Nat),i<xs.length→c<es→w.cell? ⟨b,o+i*es+c,none⟩=some (cv i c))
  (h3:∀(i c:Nat),i<xs.length→c<es→(cv i c).oneCell'=true)
  (h2:∀(i:Nat) (x:List V) (c:Nat) (y:V),xs[i]? =some x→x[c]? =some y→VR O w (fun _=>none) y (cv i c)):VR O w σ (.lst es t xs) (.slice a xs.length cap)
 |fn {σ:Sg} {f:Nat} {cs:List V} {arr:Array Value} (hn:arr.size=cs.length) (h:∀(i:Nat) (y:V) (v:Value),cs[i]? =some y→arr[i]? =some v→VR O w σ y v):VR O w σ (.fn f cs) (.func (.func f) #[] arr)
 |mp {σ:Sg} {k b es cap:Nat} (h:σ k=some (some b,es,cap)):VR O w σ (.mp k) (.map (some b))
 |val {σ:Sg} (v:Value):VR O w σ (.val v) v
structure cM(O:Nat→Prop)(w w':World):Prop where
 os:w'.os=w.os
 tape:w'.tape=w.tape
 output:w'.output=w.output
 size:w.heap.size≤w'.heap.size
 block:∀b,b<w.heap.size→¬O b→w'.heap[b]? =w.heap[b]?
theorem cM.refl(O:Nat→Prop)(w:World):cM O w w:=⟨rfl,rfl,rfl,Nat.le_refl _,fun _ _ _=>rfl⟩
theorem cM.trans {O O':Nat→Prop} {a b c:World} (h:cM O a b)(k:cM O' b c)(ho:∀n,n<a.heap.size→O' n→O n):cM O a c:=
 ⟨k.os.trans h.os,k.tape.trans h.tape,k.output.trans h.output,zW h.size k.size,fun i hi hn=>(k.block i (zG hi h.size) (fun hx=>hn (ho i hi hx))).trans (h.block i hi hn)⟩
theorem cM.below {w w':World} (h:cM (fun _=>False) w w'):Below w.heap.size w w':=⟨h.os,h.tape,h.output,h.size,fun k hk=>h.block k hk id⟩
theorem cM.cell {O:Nat→Prop} {w w':World} (h:cM O w w') {b o:Nat} (hb:b<w.heap.size)(hO:¬O b):w'.cell? ⟨b,o,none⟩=w.cell? ⟨b,o,none⟩:=
 World.cell?_of_block (w:=w) (h.block b hb hO)
inductive Refs:V→Nat→Prop
 |ptr {k i c:Nat} :Refs (.ptr k i c) k
 |sl {k off len:Nat} :Refs (.sl k off len) k
 |slx {k off len:Nat} :Refs (.slx k off len) k
 |slk {k off len c:Nat} :Refs (.slk k off len c) k
 |mp {k:Nat} :Refs (.mp k) k
 |agg {cs:List V} {i:Nat} {y:V} {k:Nat} (h:cs[i]? =some y) (hr:Refs y k):Refs (.agg cs) k
 |tup {cs:List V} {i:Nat} {y:V} {k:Nat} (h:cs[i]? =some y) (hr:Refs y k):Refs (.tup cs) k
 |fn {f:Nat} {cs:List V} {i:Nat} {y:V} {k:Nat} (h:cs[i]? =some y) (hr:Refs y k):Refs (.fn f cs) k
theorem VR.mono {σ σ':Sg} {O O':Nat→Prop} {w w':World} {x:V} {v:Value} (h:VR O w σ x v)(hk:cM O w w')(hO:∀b,b<w.heap.size→O' b→O b)
 (hσ:∀k,Refs x k→σ' k=σ k):VR O' w' σ' x v:=by
 induction h generalizing σ' with
 |any v=>exact .any v
 |int k n=>exact .int k n
 |bool b=>exact .bool b
 |str s=>exact .str s
 |agg hn h ih=>exact .agg hn fun i y v hi hv=>ih i y v hi hv fun k hr=>hσ k (.agg hi hr)
 |tup hn h ih=>exact .tup hn fun i y v hi hv=>ih i y v hi hv fun k hr=>hσ k (.tup hi hr)
 |nil=>exact .nil
 |ptr h=>exact .ptr ((hσ _ .ptr).trans h)
 |rp b o cv hn hOb hb h1 h3 h2 ih=>
  exact .rp b o cv hn (fun hx=>hOb (hO b hb hx)) (zG hb hk.size) (fun j hj=>(hk.cell hb hOb).trans (h1 j hj)) h3 fun j y hy=>ih j y hy fun _ _=>rfl
 |sl h hle ha=>exact .sl ((hσ _ .sl).trans h) hle ha
 |sl0 h=>exact .sl0 ((hσ _ .sl).trans h)
 |slx h hle ha=>exact .slx ((hσ _ .slx).trans h) hle ha
 |slx0 h=>exact .slx0 ((hσ _ .slx).trans h)
 |slk h hle ha hc=>exact .slk ((hσ _ .slk).trans h) hle ha hc
 |slk0 h=>exact .slk0 ((hσ _ .slk).trans h)
 | @lst σ es t xs a cap b o cv ha hes hcap ht h1 h3 h2 ih=>
   refine .lst b o cv (fun hx=>?_) hes hcap ht (fun i c hi hc=>?_) h3 fun i x c y hx hy=>ih i x c y hx hy fun _ _=>rfl
   ·obtain⟨e,hOb,hb⟩:=ha hx
    exact⟨e,fun hx=>hOb (hO b hb hx),zG hb hk.size⟩
   ·obtain⟨e,hOb,hb⟩:=ha (by rintro rfl;simp at hi)
    exact(hk.cell hb hOb).trans (h1 i c hi hc)
 |fn hn h ih=>exact .fn hn fun i y v hi hv=>ih i y v hi hv fun k hr=>hσ k (.fn hi hr)
 |mp h=>exact .mp ((hσ _ .mp).trans h)
 |val v=>exact .val v
def tK:V→V
 | .slk k off len _=>.sl k off len
 |v=>v
theorem lK {O:Nat→Prop} {w:World} {σ:Sg} {x:V} {v:Value} (h:VR O w σ x v):VR O w σ (tK x) v:=by
 cases h with
 |slk h hle ha hc=>subst hc;exact .sl h hle ha
 |slk0 h=>exact .sl0 h
 |any v=>exact .any v
 |int k n=>exact .int k n
 |bool b=>exact .bool b
 |str s=>exact .str s
 |agg hn h=>exact .agg hn h
 |tup hn h=>exact .tup hn h
 |nil=>exact .nil
 |ptr h=>exact .ptr h
 |rp b o cv hn hO hb h1 h3 h2=>exact .rp b o cv hn hO hb h1 h3 h2
 |sl h hle ha=>exact .sl h hle ha
 |slx h hle ha=>exact .slx h hle ha
 |slx0 h=>exact .slx0 h
 |sl0 h=>exact .sl0 h
 |lst b o cv ha hes hcap ht h1 h3 h2=>exact .lst b o cv ha hes hcap ht h1 h3 h2
 |fn hn h=>exact .fn hn h
 |mp h=>exact .mp h
 |val v=>exact .val v
theorem VR.refs {O:Nat→Prop} {w:World} {σ:Sg} {x:V} {v:Value} (h:VR O w σ x v):∀k,Refs x k→σ k≠none:=by
 induction h with
 |agg hn h ih=>
  intro k hr
  cases hr with
  | @agg _ i y _ hy hr'=>
    obtain⟨hi,_⟩:=List.getElem?_eq_some_iff.1 hy
    exact ih i y _ hy (zC (hn▸hi)) k hr'
 |tup hn h ih=>
  intro k hr
  cases hr with
  | @tup _ i y _ hy hr'=>
    obtain⟨hi,_⟩:=List.getElem?_eq_some_iff.1 hy
    exact ih i y _ hy (zC (hn▸hi)) k hr'
 |fn hn h ih=>
  intro k hr
  cases hr with
  | @fn _ _ i y _ hy hr'=>
    obtain⟨hi,_⟩:=List.getElem?_eq_some_iff.1 hy
    exact ih i y _ hy (zC (hn▸hi)) k hr'
 |ptr h=>intro k hr;cases hr;rw [h];simp
 |sl h=>intro k hr;cases hr;rw [h];simp
 |sl0 h=>intro k hr;cases hr;rw [h];simp
 |slx h=>intro k hr;cases hr;rw [h];simp
 |slx0 h=>intro k hr;cases hr;rw [h];simp
 |slk h=>intro k hr;cases hr;rw [h];simp
 |slk0 h=>intro k hr;cases hr;rw [h];simp
 |mp h=>intro k hr;cases hr;rw [h];simp
 |_=>intro k hr;cases hr
inductive Obj where
 |row (es:Nat) (xs:List (List V))
 |box (cs:List V)
 |mp (xs:Nat×List (List Int×V))
 |bb (l:List UInt8)
def uF:List Int→Value
 | [n]=>.int .i64 n
 |l=>.agg (l.map (Value.int .i64)).toArray
abbrev aC:=List (Nat×Obj)
def aC.get:aC→Nat→Option Obj
 | [],_=>none
 | (j,o)::r,k=>if k=j then some o else aC.get r k
def aC.set:aC→Nat→Obj→aC
 | [],k,o=> [(k,o)]
 | (j,p)::r,k,o=>if k=j then(k,o)::r else(j,p)::aC.set r k o
def aC.del:aC→Nat→aC
 | [],_=> []
 | (j,p)::r,k=>if k=j then aC.del r k else(j,p)::aC.del r k
theorem aC.get_set(S:aC)(k:Nat)(o:Obj)(j:Nat):(S.set k o).get j=if j=k then some o else S.get j:=by
 induction S with
 |nil=>simp [aC.set,aC.get]
 |cons p r ih=>
  obtain⟨i,q⟩:=p
  simp only [aC.set]
  by_cases h:k=i
  ·subst h;simp only [if_true,aC.get];by_cases hj:j=k <;> simp [hj]
  ·simp only [if_neg h,aC.get,ih]
   by_cases hj:j=i
   ·subst hj;simp [Ne.symm h]
   ·simp [hj]
theorem aC.get_del(S:aC)(k:Nat)(j:Nat):(S.del k).get j=if j=k then none else S.get j:=by
 induction S with
 |nil=>simp [aC.del,aC.get]
 |cons p r ih=>
  obtain⟨i,q⟩:=p
  simp only [aC.del]
  by_cases h:k=i
  ·subst h;simp only [if_true,ih,aC.get];by_cases hj:j=k <;> simp [hj]
  ·simp only [if_neg h,aC.get,ih]
   by_cases hj:j=i
   ·subst hj;simp [Ne.symm h]
   ·simp [hj]
def gB(σ:Sg)(S:aC)(b:Nat):Prop:=∃(k:Nat) (o:Obj) (es cap:Nat),S.get k=some o∧σ k=some (some b,es,cap)
def Own(U:Nat→Prop)(σ:Sg)(S:aC)(b:Nat):Prop:=U b∨gB σ S b
def mkF(_b:Bool)(_n:Nat):Nat×Nat:=(0,0)
def jV(O:Nat→Prop)(w:World)(σ:Sg)(loc:Option (Option Nat×Nat×Nat)):Obj→Prop
 | .row es xs=>(∀x∈xs,x.length=es)∧match loc with
   |none=>False
   |some (none,es',cap)=>es'=es∧cap=0∧xs=[]
   |some (some b,es',cap)=>es'=es∧(xs.length≤cap∧cap≤9223372036854775807)∧∃(arr:Array Value) (ty:TypeId×Bool),w.heap[b]? =some (.cells arr ty.1 (mkF ty.2 arr.size))∧cap*es≤arr.size∧
    ∀(i:Nat) (x:List V) (c:Nat) (y:V),xs[i]? =some x→x[c]? =some y→∃v,arr[i*es+c]? =some v∧v.oneCell'=true∧VR O w (fun _=>none) y v
 | .box cs=>∃b,loc=some (some b,cs.length,1)∧∃arr ty,w.heap[b]? =some (.cells arr ty (0,0))∧arr.size=cs.length∧
  ∀(c:Nat) (y:V),cs[c]? =some y→∃v,arr[c]? =some v∧v.oneCell'=true∧VR O w σ y v
 | .mp xs=>∃b,loc=some (some b,0,0)∧∃es clock,w.heap[b]? =some (.map es clock)∧es.size=xs.2.length∧
       ∀(i:Nat) (p:List Int×V),xs.2[i]? =some p→∃en,es[i]? =some en∧(p.1.length=xs.1∧en.key=uF p.1)∧VR O w (fun _=>none) p.2 en.val
 | .bb l=>∃b cap,loc=some (some b,1,cap)∧(l.length≤cap∧cap≤9223372036854775807)∧∃arr ty,w.heap[b]? =some (.cells arr ty (arr.size,arr.size+1))∧cap≤arr.size∧
       ∀(i:Nat) (x:UInt8),l[i]? =some x→arr[i]? =some (.int .u8 (x.toNat:Int))
class fQ where
 gl:Nat→Option (List V)
 ro:List Nat
variable [fQ]
def GlR(O:Nat→Prop)(w:World):Prop:=∀(g:Nat) (cs:List V),fQ.gl g=some cs→VR O w (fun _=>none) (.rp cs.length cs 0) (.pointer (some ⟨g,0,none⟩))
theorem GlR.mono {O O':Nat→Prop} {w w':World} (h:GlR O w)(hk:cM O w w')(hO:∀b,b<w.heap.size→O' b→O b):GlR O' w':=fun g cs e=>(h g cs e).mono hk hO fun _ _=>rfl
theorem GlR.less {O O':Nat→Prop} {w:World} (h:GlR O w)(hO:∀b,O' b→O b):GlR O' w:=h.mono (cM.refl _ _) fun b _=>hO b
structure aS(U:Nat→Prop)(σ:Sg)(S:aC)(w:World)(n:Nat):Prop where
 obj:∀k o,S.get k=some o→jV (Own U σ S) w σ (σ k) o
 inj:∀k k' o o' b es cap es' cap',S.get k=some o→S.get k'=some o'→σ k=some (some b,es,cap)→σ k'=some (some b,es',cap')→k=k'
 fresh:∀k,n≤k→S.get k=none∧σ k=none
 disj:∀b,gB σ S b→¬U b
 ulim:∀b,U b→b<w.heap.size
 gl:GlR (Own U σ S) w
theorem aS.size {U:Nat→Prop} {σ:Sg} {S:aC} {w:World} {n:Nat} (h:aS U σ S w n) {b:Nat} (hb:gB σ S b):b<w.heap.size:=by
 obtain⟨k,o,es,cap,hk,hs⟩:=hb
 have ho:=h.obj k o hk
 rw [hs] at ho
 cases o with
 |row es' xs=>
  obtain⟨-,-,-,arr,ty,hh,-⟩:=ho
  exact(Array.getElem?_eq_some_iff.1 hh).1
 |box cs=>
  obtain⟨b',hl,arr,ty,hh,-⟩:=ho
  simp only [Option.some.injEq,Prod.mk.injEq] at hl
  obtain⟨rfl,-,-⟩:=hl
  exact(Array.getElem?_eq_some_iff.1 hh).1
 |mp xs=>
  obtain⟨b',hl,arr,ck,hh,-⟩:=ho
  simp only [Option.some.injEq,Prod.mk.injEq] at hl
  obtain⟨rfl,-,-⟩:=hl
  exact(Array.getElem?_eq_some_iff.1 hh).1
 |bb l=>
  obtain⟨b',cap',hl,-,arr,ty,hh,-⟩:=ho
  simp only [Option.some.injEq,Prod.mk.injEq] at hl
  obtain⟨rfl,-,-⟩:=hl
  exact(Array.getElem?_eq_some_iff.1 hh).1
theorem aS.loc {U:Nat→Prop} {σ:Sg} {S:aC} {w:World} {n:Nat} (h:aS U σ S w n) {k:Nat} {o:Obj} (hk:S.get k=some o):σ k≠none:=by
 intro hs
 have ho:=h.obj k o hk
 rw [hs] at ho
 cases o with
 |row es xs=>exact ho.2
 |box cs=>obtain⟨b,hb,-⟩:=ho;cases hb
 |mp xs=>obtain⟨b,hb,-⟩:=ho;cases hb
 |bb l=>obtain⟨b,cap,hb,-⟩:=ho;cases hb
structure bL(σ:Sg)(S:aC)(w:World)(n:Nat)(σ':Sg)(S':aC)(w':World)(n':Nat):Prop where
 keep:cM (gB σ S) w w'
 own:∀b,b<w.heap.size→gB σ' S' b→gB σ S b
 sg:∀k,σ k≠none→σ' k=σ k
 nx:n≤n'
theorem bL.refl(σ:Sg)(S:aC)(w:World)(n:Nat):bL σ S w n σ S w n:=⟨cM.refl _ _,fun _ _ h=>h,fun _ _=>rfl,Nat.le_refl _⟩
theorem bL.trans {σ σ' σ'':Sg} {S S' S'':aC} {w w' w'':World} {n n' n'':Nat} (h:bL σ S w n σ' S' w' n')(g:bL σ' S' w' n' σ'' S'' w'' n''):bL σ S w n σ'' S'' w'' n'':=
 ⟨h.keep.trans g.keep h.own,fun b hb ho=>h.own b hb (g.own b (zG hb h.keep.size) ho),fun k hk=>(g.sg k (by rw [h.sg k hk];exact hk)).trans (h.sg k hk),zW h.nx g.nx⟩
structure lV(O0:Nat→Prop)(σ:Sg)(w:World)(n:Nat)(σ':Sg)(S':aC)(w':World)(n':Nat):Prop where
 keep:cM O0 w w'
 own:∀b,b<w.heap.size→gB σ' S' b→O0 b
 sg:∀k,σ k≠none→σ' k=σ k
 nx:n≤n'
theorem lV.trans {O0:Nat→Prop} {σ σ' σ'':Sg} {S' S'':aC} {w w' w'':World} {n n' n'':Nat} (h:lV O0 σ w n σ' S' w' n')(g:bL σ' S' w' n' σ'' S'' w'' n''):lV O0 σ w n σ'' S'' w'' n'':=
 ⟨h.keep.trans g.keep h.own,fun b hb ho=>h.own b hb (g.own b (zG hb h.keep.size) ho),fun k hk=>(g.sg k (by rw [h.sg k hk];exact hk)).trans (h.sg k hk),zW h.nx g.nx⟩
theorem bL.toB {σ σ':Sg} {S S':aC} {w w':World} {n n':Nat} (h:bL σ S w n σ' S' w' n'):lV (gB σ S) σ w n σ' S' w' n':=⟨h.keep,h.own,h.sg,h.nx⟩
theorem lV.toG {σ σ':Sg} {S S':aC} {w w':World} {n n':Nat} (h:lV (gB σ S) σ w n σ' S' w' n'):bL σ S w n σ' S' w' n':=⟨h.keep,h.own,h.sg,h.nx⟩
theorem cM.wider {O O':Nat→Prop} {w w':World} (h:cM O w w')(ho:∀b,O b→O' b):cM O' w w':=⟨h.os,h.tape,h.output,h.size,fun b hb hn=>h.block b hb fun hx=>hn (ho b hx)⟩
theorem bL.keepU {σ σ':Sg} {S S':aC} {w w':World} {n n':Nat} (g:bL σ S w n σ' S' w' n')(U:Nat→Prop):cM (Own U σ S) w w':=g.keep.wider fun _ h=>.inr h
theorem bL.ownU {σ σ':Sg} {S S':aC} {w w':World} {n n':Nat} (g:bL σ S w n σ' S' w' n')(U:Nat→Prop):∀b,b<w.heap.size→Own U σ' S' b→Own U σ S b:=fun b hb h=>h.imp id (g.own b hb)
theorem VR.grow {U:Nat→Prop} {σ σ':Sg} {S S':aC} {w w':World} {n n':Nat} {x:V} {v:Value} (h:VR (Own U σ S) w σ x v)(g:bL σ S w n σ' S' w' n'):VR (Own U σ' S') w' σ' x v:=
 h.mono (g.keepU U) (g.ownU U) fun k hr=>g.sg k (h.refs k hr)
theorem VR.lift {O:Nat→Prop} {w:World} {x:V} {v:Value} (h:VR O w (fun _=>none) x v)(σ:Sg):VR O w σ x v:=
 h.mono (cM.refl O w) (fun _ _ h=>h) fun k hr=>absurd rfl (h.refs k hr)
def aC.cellsAt(S:aC)(k i:Nat):List V:=
 match S.get k with
 |some (.row _ xs)=>xs.getD i []
 |some (.box cs)=>cs
 |some (.mp _)=> []
 |some (.bb _)=> []
 |none=> []
theorem aS.cells {U:Nat→Prop} {σ:Sg} {S:aC} {w:World} {n:Nat} (h:aS U σ S w n) {k i:Nat} {b es cap:Nat} (hs:σ k=some (some b,es,cap))
 {o:Obj} (ho:S.get k=some o) (hi:match o with | .row _ xs=>i<xs.length | .box _=>i=0 | .mp _=>False | .bb _=>False):
 (S.cellsAt k i).length=es∧b<w.heap.size∧∀(c:Nat) (y:V),(S.cellsAt k i)[c]? =some y→∃v,w.cell? ⟨b,i*es+c,none⟩=some v∧v.oneCell'=true∧VR (Own U σ S) w σ y v:=by
 have hob:=h.obj k o ho
 rw [hs] at hob
 unfold aC.cellsAt
 rw [ho]
 refine⟨?_,h.size ⟨k,o,es,cap,ho,hs⟩,?_⟩
 ·cases o with
  |row es' xs=>
   obtain⟨hl,rfl,-⟩:=hob
   simp only at hi
   simp only [zE,zD hi,zK]
   exact hl _ (zZ hi)
  |box cs=>
   obtain⟨b',hl,-⟩:=hob
   simp only [Option.some.injEq,Prod.mk.injEq] at hl
   exact hl.2.1.symm
  |mp xs=>exact hi.elim
  |bb l=>exact hi.elim
 ·intro c y hy
  cases o with
  |row es' xs=>
   obtain⟨hl,rfl,hc,arr,ty,hh,hsz,hv⟩:=hob
   simp only at hi hy
   simp only [zE,zD hi,zK] at hy
   obtain⟨v,h1,h3,h2⟩:=hv i xs[i] c y (zD hi) hy
   exact⟨v,by simp [World.cell?,hh,h1],h3,h2.lift σ⟩
  |box cs=>
   simp only at hi hy
   subst hi
   obtain⟨b',hl,arr,ty,hh,hsz,hv⟩:=hob
   simp only [Option.some.injEq,Prod.mk.injEq] at hl
   obtain⟨rfl,rfl,rfl⟩:=hl
   obtain⟨v,h1,h3,h2⟩:=hv c y hy
   exact⟨v,by simp [World.cell?,hh,h1],h3,h2⟩
  |mp xs=>exact hi.elim
  |bb l=>exact hi.elim
end Go.Sk
namespace Go.Sk
open Go Go.RowKit
variable [fQ]
inductive A where
 |t (n:Nat)
 |c (v:V)
inductive Kd where
 |i |b |s
inductive I where
 |mv (x:A)
 |pick (c a b:A)
 |un (op:UnOp) (x:A)
 |bin (op:BinOp) (x y:A)
 |conv (k:IntKind) (x:A)
 |nilck (x:A)
 |faddr (off:Nat) (x:A)
 |fget (agg:Bool) (off n:Nat) (x:A)
 |ld (agg:Bool) (n:Nat) (x:A)
 |st (n:Nat) (x y:A)
 |iaddr (es:Nat) (x i:A)
 |iarr (n es:Nat) (x i:A)
 |aidx (n:Nat) (x i:A)
 |slc (es:Nat) (x:A) (lo hi:Option A)
 |slc3 (es:Nat) (x:A) (lo:Option A) (hi mx:A)
 |isnil (neg:Bool) (x:A)
 |mkfn (f:Nat) (xs:List A)
 |len (x:A)
 |mx (x y:A)
 |mn (x y:A)
 |extr (i:Nat) (x:A)
 |eqb (neg:Bool) (x y:A)
 |eqs (neg:Bool) (offs:List (Nat×Kd)) (x y:A)
 |slen (x:A)
 |sidx (x i:A)
 |ssl (x:A) (lo hi:Option A)
 |scat (x y:A)
 |sqs (neg:Bool) (x y:A)
 |b2s (x:A)
 |s2b (x:A)
 |aslc (n:Nat) (x:A) (hi:Option A)
 |cpys (x y:A)
 |build (z:List V) (ps:List (Nat×Nat×A))
 |alloc (z:List V)
 |box (x:A)
 |bslice (es:Nat) (z:List V) (n:Nat) (ps:List (Nat×A))
 |mk (es bytes:Nat) (z:List V) (l c:A)
 |app (es bytes:Nat) (x y:A)
 |cpy (es:Nat) (x y:A)
 |mkmap (ks:Nat)
 |mget (z:V) (ok:Bool) (x i:A)
 |mput (x i v:A)
 |mgetp (z:V) (ok:Bool) (x i:A)
 |mputp (x i v:A)
 |clr (es:Nat) (z:List V) (x:A)
 |call (f:Nat) (xs:List A)
 |vcall (x:A) (xs:List A)
 |bad
def vOf:Value→Option V
 | .int k n=>some (.int k n)
 | .bool b=>some (.bool b)
 | .string s=>some (.str s)
 | .pointer none=>some .nil
 | .slice none 0 0=>some (.lst 0 true [])
 | .tuple a=>if a.size=0 then some (.tup []) else none
 | .nilFunc=>some (.val .nilFunc)
 | .map none=>some (.val (.map none))
 | .nilIface=>some (.val .nilIface)
 |_=>none
theorem aM8 {v:Value} {x:V} (h:vOf v=some x)(O:Nat→Prop)(w:World)(σ:Sg):VR O w σ x v:=by
 unfold vOf at h
 split at h
 case h_6 a=>
  split at h
  ·rename_i h0
   obtain rfl:=Option.some.inj h
   exact .tup (by simpa using h0) (by simp)
  ·cases h
 case h_10=>cases h
 all_goals(obtain rfl:=Option.some.inj h)
 ·exact .int _ _
 ·exact .bool _
 ·exact .str _
 ·exact .nil
 ·exact .lst (xs:= []) 0 0 (fun _ _=>undef) (by simp) (by simp) (by simp) (by simp) (by simp) (by simp) (by simp)
 ·exact .val _
 ·exact .val _
 ·exact .val _
def aJY:List Value→Option (List V)
 | []=>some []
 |v::r=>match vOf v,aJY r with
  |some x,some xs=>some (x::xs)
  |_,_=>none
theorem aHA {vs:List Value} {xs:List V} (h:aJY vs=some xs):xs.length=vs.length∧∀(i:Nat) (y:V) (v:Value),xs[i]? =some y→vs[i]? =some v→∀(O:Nat→Prop) (w:World) (σ:Sg),VR O w σ y v:=by
 induction vs generalizing xs with
 |nil=>simp only [aJY,Option.some.injEq] at h;subst h;simp
 |cons v r ih=>
  simp only [aJY] at h
  split at h
  ·rename_i x xs' h1 h2
   obtain rfl:=Option.some.inj h
   obtain⟨e,f⟩:=ih h2
   refine⟨by simp [e],fun i y u hi hu=>?_⟩
   cases i with
   |zero=>simp only [zJ,Option.some.injEq] at hi hu;subst hi hu;exact aM8 h1
   |succ i=>simp only [zP] at hi hu;exact f i y u hi hu
  ·cases h
def bF:Operand→Option A
 | .tmp t=>some (.t t)
 | .const v=>(vOf v).map .c
 | .func f=>some (.c (.fn f []))
 | .global g=>(fQ.gl g).map fun cs=>.c (.rp cs.length cs 0)
def cH(P:Program)(t:TypeId):Option Bool:=
 match P.underlying t with
 |some (.struct _)=>some true
 |some (.array _ _)=>some true
 |some _=>some false
 |none=>none
def bB(P:Program)(t:TypeId):Option Nat:=(P.info? t).map (·.size)
section runs
variable {P:Program} {w:World}
theorem bA {t:TypeId} {n:Nat} (h:bB P t=some n):(sizeOf t).run P w=.ok n w:=by
 unfold bB at h
 cases hi:P.info? t with
 |none=>simp [hi] at h
 |some i=>simp only [hi,Option.map_some,Option.some.injEq] at h;subst h;simp [sizeOf,typeInfo,hi]
theorem hY {t:TypeId} {b:Bool} (h:cH P t=some b):(isAgg t).run P w=.ok b w:=by
 unfold cH at h
 cases hu:P.underlying t with
 |none=>simp [hu] at h
 |some d=>
  simp only [hu] at h
  unfold isAgg
  simp only [Sem.run_bind,run_underlying hu,Result.andThen_ok]
  cases d <;> simp_all
theorem iM(b o j:Nat):Addr.add ⟨b,o,none⟩ j=⟨b,o+j,none⟩:=by
 unfold Addr.add;split <;> simp_all
theorem run_loadCellsFrom(b o:Nat)(cv:Nat→Value):∀(n i:Nat) (acc:Array Value),(∀j,j<n→w.cell? ⟨b,o+(i+j),none⟩=some (cv (i+j)))→
 (loadCellsFrom ⟨b,o,none⟩ i n acc).run P w=.ok (acc++((zN n).map fun j=>cv (i+j)).toArray) w:=by
 intro n
 induction n with
 |zero=>intro i acc _;simp [loadCellsFrom]
 |succ n ih=>
  intro i acc h
  have h0:=h 0 (by omega)
  simp only [Nat.add_zero] at h0
  simp only [loadCellsFrom,Sem.run_bind,iM,run_load,h0,Result.andThen_ok]
  rw [ih (i+1) _ fun j hj=>by have :=h (j+1) (by omega);rw [show i+1+j=i+(j+1) by omega];exact this]
  congr 1
  apply Array.ext'
  simp [List.range_succ_eq_map,Function.comp_def,zF,Nat.add_comm 1]
theorem run_loadCells(b o:Nat)(cv:Nat→Value)(n:Nat)(h:∀j,j<n→w.cell? ⟨b,o+j,none⟩=some (cv j)):
 (loadCells ⟨b,o,none⟩ n).run P w=.ok ((zN n).map cv).toArray w:=by
 unfold loadCells
 rw [run_loadCellsFrom b o cv n 0 #[] (by simpa using h)]
 simp
theorem aH2 {t:TypeId} {agg:Bool} {n:Nat} (ha:cH P t=some agg)(hs:bB P t=some n)(b o:Nat)(cv:Nat→Value)
 (h:∀j,j<n→w.cell? ⟨b,o+j,none⟩=some (cv j)) (h1:agg=false→n=1):
 (loadVar t ⟨b,o,none⟩).run P w=.ok (if agg then .agg ((zN n).map cv).toArray else cv 0) w:=by
 unfold loadVar
 simp only [Sem.run_bind,hY ha,Result.andThen_ok]
 cases agg with
 |true=>simp [bA hs,run_loadCells b o cv n h]
 |false=>
  have h0:=h 0 (by have :=h1 rfl;omega)
  simp only [Nat.add_zero] at h0
  simp [h0]
end runs
def aG4(g:TypeId→Nat→Option (List (Nat×Kd)))(P:Program)(n o:Nat):List Field→Option (List (Nat×Kd))
 | []=>some []
 |f::r=>match g f.type (o+f.offset),bB P f.type,aG4 g P n o r with
  |some l,some m,some k=>if f.name≠ "_" ∧f.offset+m≤n then some (l++k) else none
  |_,_,_=>none
def aG5(g:Nat→Option (List (Nat×Kd)))(es:Nat):Nat→Nat→Option (List (Nat×Kd))
 |0,_=>some []
 |n+1,o=>match g o,aG5 g es n (o+es) with
  |some l,some k=>some (l++k)
  |_,_=>none
def kJ(P:Program):Nat→TypeId→Nat→Option (List (Nat×Kd))
 |0,_,_=>none
 |d+1,t,o=>match P.underlying t with
  |some (.int _)=>if bB P t=some 1 then some [(o,.i)] else none
  |some .bool=>if bB P t=some 1 then some [(o,.b)] else none
  |some .string=>if bB P t=some 1 then some [(o,.s)] else none
  |some (.struct fs)=>match bB P t with
   |some n=>if P.stoodInHeld t=false then aG4 (kJ P d) P n o fs.toList else none
   |none=>none
  |some (.array n e)=>match bB P e,bB P t with
   |some es,some m=>if m=n*es then aG5 (fun o=>kJ P d e o) es n o else none
   |_,_=>none
  |_=>none
def eqTy(P:Program)(t:TypeId):Option (List (Nat×Kd)):=if P.eqGuardType P.depth t=false then kJ P 8 t 0 else none
def aZ6(P:Program)(t:TypeId):Bool:=match P.underlying t with
 |some (.int .i64)=>true
 |_=>false
def aDC(P:Program)(t:TypeId)(fs:Array Field):Bool:=
 (match cH P t,bB P t,kJ P 8 t 0 with
 |some true,some 2,some [(0,.i),(1,.i)]=>true
 |_,_,_=>false)&&fs.toList.all fun f=>aZ6 P f.type&&((match cH P f.type with |some false=>true |_=>false)&&Nat.blt f.offset 2)
def aJI(P:Program):Op→Option I
 | .move x=>(bF x).map .mv
 | .assign x=>(bF x).map .mv
 | .pick c a b=>match bF c,bF a,bF b with
   |some c,some a,some b=>some (.pick c a b)
   |_,_,_=>none
 | .unOp op _ x=>(bF x).map (.un op)
 | .binOp op t x y _=>match P.underlying t,bF x,bF y with
   |some (.int _),some x,some y=>some (.bin op x y)
   |some .bool,some x,some y=>match op with
    | .eql=>some (.eqb false x y)
    | .neq=>some (.eqb true x y)
    |_=>none
   |some (.struct _),some x,some y=>match eqTy P t,op with
    |some l,.eql=>some (.eqs false l x y)
    |some l,.neq=>some (.eqs true l x y)
    |_,_=>none
   |some (.array _ _),some x,some y=>match eqTy P t,op with
    |some l,.eql=>some (.eqs false l x y)
    |some l,.neq=>some (.eqs true l x y)
    |_,_=>none
   |some (.slice _),some x,some _=>match op,y with
    | .eql,.const (.slice none 0 0)=>some (.isnil false x)
    | .neq,.const (.slice none 0 0)=>some (.isnil true x)
    |_,_=>none
   |_,_,_=>none
 | .convert s d x=>match P.underlying s,P.underlying d,bF x with
   |some (.int _),some (.int k),some x=>some (.conv k x)
   |_,_,_=>none
 | .nilCheck x=>(bF x).map .nilck
 | .fieldAddr s x f=>match P.underlying s,bF x with
   |some (.struct fs),some x=>match fs[f]? with
    |some fd=>match bB P fd.type with
     |some (_+1)=>some (.faddr fd.offset x)
     |_=>none
    |none=>none
   |_,_=>none
 | .load t a=>match cH P t,bB P t,bF a with
   |some agg,some n,some a=>if agg=true∨n=1 then some (.ld agg n a) else none
   |_,_,_=>none
 | .extract x i=>(bF x).map (.extr i)
 | .lookup t x i ok=>match P.underlying t,bF x,bF i with
   |some (.map kt el),some x,some i=>match P.underlying kt,(P.info? el).bind (·.zero) with
    |some (.int .i64),some zv=>(vOf zv).map fun z=>.mget z ok x i
    |some (.struct fs),some zv=>if aDC P kt fs=true then(vOf zv).map fun z=>.mgetp z ok x i else none
    |_,_=>none
   |_,_,_=>none
 | .indexAddr t x i=>match P.underlying t,bF x,bF i with
   |some (.slice e),some x,some i=>(bB P e).map fun es=>.iaddr es x i
   |some (.array n e),some x,some i=>(bB P e).map fun es=>.iarr n es x i
   |_,_,_=>none
 | .index t x i=>match P.underlying t,bF x,bF i with
   |some (.array n e),some x,some i=>if cH P e=some false∧bB P e=some 1 then some (.aidx n x i) else none
   |_,_,_=>none
 | .field t x f=>match P.underlying t,bF x with
   |some (.struct fs),some x=>match fs[f]? with
    |some fd=>match cH P fd.type,bB P fd.type with
     |some agg,some n=>if agg=true∨n=1 then some (.fget agg fd.offset n x) else none
     |_,_=>none
    |none=>none
   |_,_=>none
 | .makeFunc (.func f) first caps=>match first.toList with
   | []=>(caps.toList.mapM bF).map (.mkfn f)
   |_=>none
 | .slice t x lo (some hi) (some mx)=>match P.underlying t,bF x,bF hi,bF mx with
   |some (.slice e),some x,some hi,some mx=>match bB P e,lo with
    |some es,none=>some (.slc3 es x none hi mx)
    |some es,some l=>(bF l).map fun l=>.slc3 es x (some l) hi mx
    |_,_=>none
   |_,_,_,_=>none
 | .slice t x lo hi none=>match P.underlying t,bF x with
   |some (.slice e),some x=>match bB P e,lo,hi with
    |some es,none,none=>some (.slc es x none none)
    |some es,some l,none=>(bF l).map fun l=>.slc es x (some l) none
    |some es,none,some h=>(bF h).map fun h=>.slc es x none (some h)
    |some es,some l,some h=>match bF l,bF h with
     |some l,some h=>some (.slc es x (some l) (some h))
     |_,_=>none
    |_,_,_=>none
   |_,_=>none
 | .call { callee:=.builtin .len,args,argTypes } =>match args.toList,argTypes.toList with
   | [x],[t]=>match P.underlying t,bF x with
     |some (.slice _),some x=>some (.len x)
     |_,_=>none
   |_,_=>none
 | .call { callee:=.builtin .max,args,.. } =>match args.toList with
   | [x,y]=>match bF x,bF y with
     |some x,some y=>some (.mx x y)
     |_,_=>none
   |_=>none
 | .call { callee:=.builtin .min,args,.. } =>match args.toList with
   | [x,y]=>match bF x,bF y with
     |some x,some y=>some (.mn x y)
     |_,_=>none
   |_=>none
 |_=>none
def aY4(P:Program):Op→Option I
 | .binOp op t x y _=>match P.underlying t,bF x,bF y with
   |some .string,some x,some y=>match op with
    | .add=>some (.scat x y)
    | .eql=>some (.sqs false x y)
    | .neq=>some (.sqs true x y)
    |_=>none
   |_,_,_=>none
 | .convert s d x=>match P.underlying s,P.underlying d,bF x with
   |some (.slice e),some .string,some x=>match P.underlying e,bB P e with
    |some (.int .u8),some 1=>some (.b2s x)
    |_,_=>none
   |_,_,_=>none
 | .index t x i=>match P.underlying t,bF x,bF i with
   |some .string,some x,some i=>some (.sidx x i)
   |_,_,_=>none
 | .slice t x lo hi none=>match P.underlying t,bF x with
   |some .string,some x=>match lo,hi with
    |none,none=>some (.ssl x none none)
    |some l,none=>(bF l).map fun l=>.ssl x (some l) none
    |none,some h=>(bF h).map fun h=>.ssl x none (some h)
    |some l,some h=>match bF l,bF h with
     |some l,some h=>some (.ssl x (some l) (some h))
     |_,_=>none
   |_,_=>none
 | .call { callee:=.builtin .len,args,argTypes } =>match args.toList,argTypes.toList with
   | [x],[t]=>match P.underlying t,bF x with
     |some .string,some x=>some (.slen x)
     |_,_=>none
   |_,_=>none
 |_=>none
def aDJ(P:Program)(o:Op):Option I:=
 match aJI P o with
 |some i=>some i
 |none=>aY4 P o
def fN(op:BinOp)(k:IntKind)(x y:Int):Int:=
 k.wrap (match op with
   | .and=>(zH k.bits x &&& zH k.bits y).toNat
   | .or=>(zH k.bits x ||| zH k.bits y).toNat
   | .xor=>(zH k.bits x ^^^ zH k.bits y).toNat
   |_=>(zH k.bits x &&& ~~~ zH k.bits y).toNat:Nat)
def shk(op:BinOp)(k k':IntKind):Bool:=
 match op with
 | .shl=>true
 | .shr=>true
 |_=>decide (k=k')
def aB8(op:BinOp)(k:IntKind)(a b:Int)(gc:Bool)(K:V→Prop):Prop:=
 match op with
 | .add=>K (.int k (k.wrap (a+b)))
 | .sub=>K (.int k (k.wrap (a-b)))
 | .mul=>K (.int k (k.wrap (a*b)))
 | .quo=>(gc=true→b≠0)∧K (.int k (k.wrap (a.tdiv b)))
 | .rem=>(gc=true→b≠0)∧K (.int k (a.tmod b))
 | .eql=>K (.bool (a==b))
 | .neq=>K (.bool (a != b))
 | .lss=>K (.bool (decide (a<b)))
 | .leq=>K (.bool (decide (a≤b)))
 | .gtr=>K (.bool (decide (b<a)))
 | .geq=>K (.bool (decide (b≤a)))
 | .and=>K (.int k (fN .and k a b))
 | .or=>K (.int k (fN .or k a b))
 | .xor=>K (.int k (fN .xor k a b))
 | .andNot=>K (.int k (fN .andNot k a b))
 | .shl=>(gc=true→0≤b)∧K (.int k (k.wrap (a*2^min b.toNat k.bits)))
 | .shr=>(gc=true→0≤b)∧K (.int k (a.fdiv (2^min b.toNat k.bits)))
def lJ(a b:ByteArray):Bool:=a.data.toList==b.data.toList
def fU:List (Nat×Kd)→List V→List V→Bool→(Bool→Prop)→Prop
 | [],_,_,acc,K=>K acc
 | (o,.i)::r,xs,ys,acc,K=>match xs[o]?,ys[o]? with
   |some (.int k a),some (.int k' b)=>k=k'∧fU r xs ys (acc&&(a==b)) K
   |_,_=>False
 | (o,.b)::r,xs,ys,acc,K=>match xs[o]?,ys[o]? with
   |some (.bool a),some (.bool b)=>fU r xs ys (acc&&(a==b)) K
   |_,_=>False
 | (o,.s)::r,xs,ys,acc,K=>match xs[o]?,ys[o]? with
   |some (.str a),some (.str b)=>fU r xs ys (acc&&lJ a b) K
   |_,_=>False
theorem nB {K K':Bool→Prop} (hm:∀r,K r→K' r):∀ {offs:List (Nat×Kd)} {xs ys:List V} {acc:Bool},fU offs xs ys acc K→fU offs xs ys acc K'
 | [],_,_,_,h=>hm _ h
 | (o,.i)::r,xs,ys,acc,h=>by
   simp only [fU] at h⊢
   split at h
   ·exact⟨h.1,nB hm h.2⟩
   ·exact h.elim
 | (o,.b)::r,xs,ys,acc,h=>by
   simp only [fU] at h⊢
   split at h
   ·exact nB hm h
   ·exact h.elim
 | (o,.s)::r,xs,ys,acc,h=>by
   simp only [fU] at h⊢
   split at h
   ·exact nB hm h
   ·exact h.elim
theorem qI {K:Bool→Prop} :∀ {offs:List (Nat×Kd)} {xs ys:List V} {acc:Bool},fU offs xs ys acc K→∃r,K r∧fU offs xs ys acc fun r'=>r'=r
 | [],_,_,_,h=>⟨_,h,rfl⟩
 | (o,.i)::r,xs,ys,acc,h=>by
   simp only [fU] at h⊢
   split at h
   ·obtain⟨q,h1,h2⟩:=qI h.2;exact⟨q,h1,h.1,h2⟩
   ·exact h.elim
 | (o,.b)::r,xs,ys,acc,h=>by
   simp only [fU] at h⊢
   split at h
   ·exact qI h
   ·exact h.elim
 | (o,.s)::r,xs,ys,acc,h=>by
   simp only [fU] at h⊢
   split at h
   ·exact qI h
   ·exact h.elim
def fM:List (List V)→Option (List UInt8)
 | []=>some []
 | [.int .u8 n]::r=>match fM r with
   |some l=>some (UInt8.ofNat n.toNat::l)
   |none=>none
 |_=>none
def pX:Option Obj→Option Nat
 |some (.row es _)=>some es
 |some (.bb _)=>some 1
 |_=>none
def cJ(l:List UInt8):List (List V):=l.map fun b=> [V.int .u8 (b.toNat:Int)]
def dZ:List (List Int×V)→List Int→V→V
 | [],_,z=>z
 | (k,v)::r,j,z=>if k=j then v else dZ r j z
def lA:List (List Int×V)→List Int→Bool
 | [],_=>false
 | (k,_)::r,j=>if k=j then true else lA r j
def fW:List (List Int×V)→List Int→V→List (List Int×V)
 | [],j,v=> [(j,v)]
 | (k,u)::r,j,v=>if k=j then(k,v)::r else(k,u)::fW r j v
def nT(agg:Bool)(es:Nat)(cs:List V)(c n:Nat):V:=
 if agg then(if c=0∧n=es then .agg cs else .agg ((cs.drop c).take n)) else cs.getD c .any
def fB(S:aC)(i:I)(e:A→V)(gc:Bool)(K:V→Prop):Prop:=
 match i with
 | .mv x=>K (e x)
 | .un .not x=>match e x with | .bool b=>K (.bool (!b))|_=>gc=false∧K .any
 | .un .neg x=>match e x with | .int k n=>K (.int k (k.wrap (0-n)))|_=>gc=false∧K .any
 | .bin op x y=>match e x,e y with
   | .int k a,.int k' b=>shk op k k'=true∧aB8 op k a b gc K
   |_,_=>gc=false∧K .any
 | .conv k x=>match e x with | .int _ n=>K (.int k (k.wrap n))|_=>gc=false∧K .any
 | .nilck x=>match e x with
   | .ptr k i c=>K (.ptr k i c)
   | .rp es cs c=>K (.rp es cs c)
   |_=>gc=false∧K .any
 | .faddr off x=>match e x with
   | .ptr k i c=>K (.ptr k i (c+off))
   | .rp es cs c=>K (.rp es cs (c+off))
   |_=>gc=false∧K .any
 | .ld agg n x=>match e x with
   | .ptr k i c=>match S.get k with
     |some (.row es xs)=>(gc=true→i<xs.length)∧c+n≤es∧K (nT agg es (xs.getD i []) c n)
     |some (.box cs)=>(gc=true→i=0∧c+n≤cs.length)∧K (nT agg cs.length cs c n)
     |_=>gc=false∧K .any
   | .rp es cs c=>(gc=true→c+n≤es)∧K (nT agg es cs c n)
   |_=>gc=false∧K .any
 | .eqb neg x y=>match e x,e y with
   | .bool p,.bool q=>(match neg with |true=>K (.bool (!(p==q)))|false=>K (.bool (p==q)))
   |_,_=>gc=false∧K .any
 | .eqs neg offs x y=>match e x,e y with
   | .agg xs,.agg ys=>fU offs xs ys true fun r=>(match neg with |true=>K (.bool (!r))|false=>K (.bool r))
   |_,_=>gc=false∧K .any
 | .extr i x=>match e x with
   | .tup vs=>i<vs.length∧K (vs.getD i .any)
   |_=>gc=false∧K .any
 | .fget agg off n x=>match e x with
   | .agg cs=>off+n≤cs.length∧K (nT agg cs.length cs off n)
   |_=>gc=false∧K .any
 | .mkfn f xs=>K (.fn f (xs.map e))
 | .isnil neg x=>match e x with
   | .lst _ _ (_::_)=>K (.bool neg)
   | .val (.slice none _ _)=>K (.bool (!neg))
   | .val (.slice (some _) _ _)=>K (.bool neg)
   |_=>gc=false∧K .any
 | .slc3 es x lo hi mx=>match tK (e x) with
   | .sl k off len=>match S.get k with
     |some (.row es' _)=>
      match(match lo with |none=>V.int .i64 0 |some l=>e l),e hi,e mx with
      | .int _ l,.int _ h,.int _ m=>es'=es∧(gc=true→0≤l∧l≤h∧h=m∧m≤(len:Int))∧K (.slx k (off+l.toNat) (h.toNat-l.toNat))
      |_,_,_=>gc=false∧K .any
     |_=>gc=false∧K .any
   |_=>gc=false∧K .any
 | .iaddr es x i=>match tK (e x),e i with
   | .sl k off len,.int _ j=>match pX (S.get k) with
     |some es'=>es'=es∧(gc=true→0≤j∧j< (len:Int))∧K (.ptr k (off+j.toNat) 0)
     |_=>gc=false∧K .any
   | .lst es' _ xs,.int _ j=>(gc=true→es'=es∧0≤j∧j< (xs.length:Int))∧K (.rp es (xs.getD j.toNat []) 0)
   |_,_=>gc=false∧K .any
 | .iarr n es x i=>match e x,e i with
   | .ptr k i0 c,.int _ j=>(gc=true→0≤j∧j< (n:Int))∧K (.ptr k i0 (c+j.toNat*es))
   | .rp es' cs c,.int _ j=>(gc=true→0≤j∧j< (n:Int))∧K (.rp es' cs (c+j.toNat*es))
   |_,_=>gc=false∧K .any
 | .aidx n x i=>match e x,e i with
   | .agg cs,.int _ j=>cs.length=n∧(gc=true→0≤j∧j< (n:Int))∧K (cs.getD j.toNat .any)
   |_,_=>gc=false∧K .any
 | .slc es x lo hi=>match tK (e x) with
   | .sl k off len=>match pX (S.get k) with
     |some es'=>
      match(match lo with |none=>V.int .i64 0 |some l=>e l),(match hi with |none=>V.int .i64 (len:Int)|some h=>e h) with
      | .int _ l,.int _ h=>es'=es∧(gc=true→0≤l∧l≤h∧h≤(len:Int))∧K (.sl k (off+l.toNat) (h.toNat-l.toNat))
      |_,_=>gc=false∧K .any
     |_=>gc=false∧K .any
   | .lst es' _ xs=>
    match(match lo with |none=>V.int .i64 0 |some l=>e l),(match hi with |none=>V.int .i64 (xs.length:Int)|some h=>e h) with
    | .int _ l,.int _ h=>(gc=true→(es'=es∨xs=[])∧0≤l∧l≤h∧h≤(xs.length:Int))∧K (.lst es' false ((xs.take h.toNat).drop l.toNat))
    |_,_=>gc=false∧K .any
   |_=>gc=false∧K .any
 | .len x=>match tK (e x) with
   | .sl _ _ len=>K (.int .i64 (len:Int))
   | .lst _ _ xs=>K (.int .i64 (xs.length:Int))
   |_=>gc=false∧K .any
 | .slen x=>match e x with
   | .str s=>K (.int .i64 (s.size:Int))
   |_=>gc=false∧K .any
 | .sidx x i=>match e x,e i with
   | .str s,.int _ j=>(gc=true→0≤j∧j< (s.size:Int))∧K (.int .u8 ((s.data.toList.getD j.toNat 0).toNat:Int))
   |_,_=>gc=false∧K .any
 | .ssl x lo hi=>match e x with
   | .str s=>match(match lo with |none=>V.int .i64 0 |some l=>e l),(match hi with |none=>V.int .i64 (s.size:Int)|some h=>e h) with
     | .int _ l,.int _ h=>(gc=true→0≤l∧l≤h∧h≤(s.size:Int))∧K (.str (s.extract l.toNat h.toNat))
     |_,_=>gc=false∧K .any
   |_=>gc=false∧K .any
 | .scat x y=>match e x,e y with
   | .str a,.str b=>(gc=true→a.size+b.size≤9223372036854775807)∧K (.str (a++b))
   |_,_=>gc=false∧K .any
 | .sqs neg x y=>match e x,e y with
   | .str a,.str b=>(match neg with |true=>K (.bool (!lJ a b))|false=>K (.bool (lJ a b)))
   |_,_=>gc=false∧K .any
 | .b2s x=>match tK (e x) with
   | .sl k off len=>match S.get k with
     |some (.row 1 xs)=>match fM ((xs.drop off).take len) with
      |some l=>(gc=true→off+len≤xs.length)∧K (.str ⟨l.toArray⟩)
      |none=>gc=false∧K .any
     |some (.bb l)=>(gc=true→off+len≤l.length)∧K (.str ⟨((l.drop off).take len).toArray⟩)
     |_=>gc=false∧K .any
   | .lst 1 _ xs=>match fM xs with
     |some l=>K (.str ⟨l.toArray⟩)
     |none=>gc=false∧K .any
   |_=>gc=false∧K .any
 | .mx x y=>match e x,e y with
   | .int k a,.int _ b=>K (.int k (max a b))
   |_,_=>gc=false∧K .any
 | .mn x y=>match e x,e y with
   | .int k a,.int _ b=>K (.int k (min a b))
   |_,_=>gc=false∧K .any
 | .mget z ok x i=>match e x,e i with
   | .mp k,.int .i64 j=>match S.get k with
     |some (.mp (1,xs))=>(match ok with |true=>K (.tup [dZ xs [j] z,.bool (lA xs [j])])|false=>K (dZ xs [j] z))
     |_=>gc=false∧K .any
   |_,_=>gc=false∧K .any
 | .mgetp z ok x i=>match e x,e i with
   | .mp k,.agg [.int .i64 a,.int .i64 b]=>match S.get k with
     |some (.mp (2,xs))=>(match ok with |true=>K (.tup [dZ xs [a,b] z,.bool (lA xs [a,b])])|false=>K (dZ xs [a,b] z))
     |_=>gc=false∧K .any
   |_,_=>gc=false∧K .any
 |_=>False
end Go.Sk
namespace Go.Sk
open Go Go.RowKit
variable [fQ]
def sA(w w':World):Prop:=∀b,b<w.heap.size→w'.heap[b]? =w.heap[b]?
theorem sA.cell {w w':World} (h:sA w w') {b o:Nat} (hb:b<w.heap.size):w'.cell? ⟨b,o,none⟩=w.cell? ⟨b,o,none⟩:=World.cell?_of_block (w:=w) (h b hb)
theorem sA.refl(w:World):sA w w:=fun _ _=>rfl
def fR(P:Program)(U:Nat→Prop)(σ:Sg)(S:aC)(w:World)(ρ:Operand→Value)(o:Op)(K:V→Prop):Prop:=
 ∃v cv,K v∧VR (Own U σ S) w σ v cv∧∀(w':World) (o':Oper),o'.op=o→sA w w'→(execOp ρ o').run P w'=.ok (.value cv) w'
section
variable {P:Program} {U:Nat→Prop} {σ:Sg} {S:aC} {w:World} {n:Nat} {ρ:Operand→Value} {e:A→V} {K:V→Prop}
theorem aGP {O:Nat→Prop} {w:World} {σ:Sg} {agg:Bool} {es:Nat} {cs:List V} {c n:Nat} {cv:Nat→Value} (hn:agg=true∨n=1)(hle:c+n≤es)(hes:cs.length=es)
 (h:∀j y,j<n→cs[c+j]? =some y→VR O w σ y (cv j)):VR O w σ (nT agg es cs c n) (if agg then .agg ((zN n).map cv).toArray else cv 0):=by
 unfold nT
 cases agg with
 |true=>
  simp only [if_true]
  have key:∀(l:List V),l=(cs.drop c).take n→VR O w σ (.agg l) (.agg ((zN n).map cv).toArray):=by
   intro l hl
   refine .agg (by simp [hl];omega) fun j y v hj hv=>?_
   simp only [List.getElem?_toArray,zX,zA] at hv
   obtain⟨j',hj',rfl⟩:=hv
   obtain⟨hj1,hj2⟩:=List.getElem?_eq_some_iff.1 hj'
   simp only [List.length_range] at hj1
   simp only [List.getElem_range] at hj2
   subst hj2
   refine h j y hj1 ?_
   rw [hl,zO] at hj
   simpa [hj1] using hj
  split
  ·rename_i h0
   obtain⟨rfl,rfl⟩:=h0
   exact key _ (by simp [←hes])
  ·exact key _ rfl
 |false=>
  have hn1:n=1:=by simpa using hn
  subst hn1
  simp only [zI,if_false]
  have hlt:c<cs.length:=by omega
  refine h 0 _ (by omega) ?_
  simp [zE,zD hlt]
theorem aO5 {t:TypeId} {agg:Bool} {n':Nat} {a:Operand} {x:A} (hagg:cH P t=some agg)(hsz:bB P t=some n')(hn:agg=true∨n'=1)(hR:aS U σ S w n)
 (hx:VR (Own U σ S) w σ (e x) (ρ a)) (hK:fB S (.ld agg n' x) e true K):fR P U σ S w ρ (.load t a) K:=by
 have run:∀(b o:Nat) (cv:Nat→Value),ρ a=.pointer (some ⟨b,o,none⟩)→b<w.heap.size→(∀j,j<n'→w.cell? ⟨b,o+j,none⟩=some (cv j))→
  ∀(w':World) (o':Oper),o'.op=.load t a→sA w w'→(execOp ρ o').run P w'=.ok (.value (if agg then .agg ((zN n').map cv).toArray else cv 0)) w':=by
  intro b o cv ha hb hc w' o' ho hs
  simp only [execOp,ho,Instr.loadAt,Instr.sureAddr,ha,pure_bind,Sem.run_bind]
  rw [aH2 hagg hsz b o cv (fun j hj=>(hs.cell hb).trans (hc j hj)) (fun hf=>by simpa [hf] using hn)]
  rfl
 unfold fB at hK
 simp only at hK
 split at hK
 ·rename_i k i c hex
  rw [hex] at hx
  generalize hva:ρ a=va at hx
  cases hx with
  | @ptr _ k i c b es cap hs=>
    split at hK
    ·rename_i es' xs ho
     obtain⟨hi,hle,hk⟩:=hK
     obtain⟨hlen,hb,hcell⟩:=hR.cells (i:=i) hs ho (hi trivial)
     have hcs:S.cellsAt k i=xs.getD i []:=by unfold aC.cellsAt;rw [ho]
     rw [hcs] at hlen hcell
     have hes:es=es':=by
      have :=hR.obj k _ ho
      rw [hs] at this
      exact this.2.1
     subst hes
     refine⟨_,_,hk,aGP (cv:=fun j=>(w.cell? ⟨b,i*es+c+j,none⟩).getD undef) hn hle hlen ?_,run b (i*es+c) _ hva hb ?_⟩
     ·intro j y hj hy
      obtain⟨v,h1,-,h2⟩:=hcell (c+j) y hy
      rw [←zF] at h1
      simpa [h1] using h2
     ·intro j hj
      have hlt:c+j< (xs.getD i []).length:=by omega
      obtain⟨v,h1,-,h2⟩:=hcell (c+j) _ (zD hlt)
      rw [←zF] at h1
      simp [h1]
    ·rename_i cs ho
     obtain⟨hh,hk⟩:=hK
     obtain⟨rfl,hle⟩:=hh trivial
     obtain⟨hlen,hb,hcell⟩:=hR.cells (i:=0) hs ho rfl
     have hcs:S.cellsAt k 0=cs:=by unfold aC.cellsAt;rw [ho]
     rw [hcs] at hlen hcell
     refine⟨_,_,hk,aGP (cv:=fun j=>(w.cell? ⟨b,0*es+c+j,none⟩).getD undef) hn hle rfl ?_,run b (0*es+c) _ hva hb ?_⟩
     ·intro j y hj hy
      obtain⟨v,h1,-,h2⟩:=hcell (c+j) y hy
      rw [←zF] at h1
      simp only [h1,zK]
      exact h2
     ·intro j hj
      have hlt:c+j<cs.length:=by omega
      obtain⟨v,h1,-,h2⟩:=hcell (c+j) _ (zD hlt)
      rw [←zF] at h1
      simp only [h1,zK]
    ·exact absurd hK.1 (by simp)
 ·rename_i es cs c hex
  rw [hex] at hx
  generalize hva:ρ a=va at hx
  cases hx with
  | @rp _ es cs c b o cv hlen hO hb h1 h3 h2=>
    obtain⟨hle,hk⟩:=hK
    have hle:=hle trivial
    refine⟨_,_,hk,aGP (cv:=fun j=>cv (c+j)) hn hle hlen (fun j y hj hy=>(h2 _ _ hy).lift σ),run b (o+c) _ hva hb fun j hj=>?_⟩
    rw [zF]
    exact h1 _ (by omega)
 ·exact absurd hK.1 (by simp)
theorem aO6 {x:Operand} {a:A} {o:Op} (ho:o=.move x∨o=.assign x)(hx:VR (Own U σ S) w σ (e a) (ρ x))(hK:fB S (.mv a) e true K):fR P U σ S w ρ o K:=
 ⟨_,_,hK,hx,fun w' o' h _=>by rcases ho with rfl |rfl <;> simp [execOp,h]⟩
theorem bGX {op:UnOp} {t:TypeId} {x:Operand} {a:A} (hx:VR (Own U σ S) w σ (e a) (ρ x))(hK:fB S (.un op a) e true K):fR P U σ S w ρ (.unOp op t x) K:=by
 unfold fB at hK
 cases op <;> simp only at hK
 case not=>
  split at hK
  ·rename_i b hex
   rw [hex] at hx
   generalize hva:ρ x=va at hx
   cases hx
   exact⟨_,_,hK,.bool _,fun w' o' h _=>by simp [execOp,h,hva,Op.unary]⟩
  ·exact absurd hK.1 (by simp)
 case neg=>
  split at hK
  ·rename_i k m hex
   rw [hex] at hx
   generalize hva:ρ x=va at hx
   cases hx
   exact⟨_,_,hK,.int _ _,fun w' o' h _=>by simp [execOp,h,hva,Op.unary,Op.intArith]⟩
  ·exact absurd hK.1 (by simp)
theorem aXR {s d:TypeId} {k k0:IntKind} {x:Operand} {a:A} (hs:P.underlying s=some (.int k0))(hd:P.underlying d=some (.int k))(hx:VR (Own U σ S) w σ (e a) (ρ x))(hK:fB S (.conv k a) e true K):fR P U σ S w ρ (.convert s d x) K:=by
 unfold fB at hK
 simp only at hK
 split at hK
 ·rename_i k1 m hex
  rw [hex] at hx
  generalize hva:ρ x=va at hx
  cases hx
  exact⟨_,_,hK,.int _ _,fun w' o' h _=>by simp [execOp,h,hva,convert,run_underlying hs,run_underlying hd,Conv.intToInt]⟩
 ·exact absurd hK.1 (by simp)
theorem bD1 {op:BinOp} {t u:TypeId} {x y:Operand} {a b:A} (hx:VR (Own U σ S) w σ (e a) (ρ x))(hy:VR (Own U σ S) w σ (e b) (ρ y))(hK:fB S (.bin op a b) e true K):fR P U σ S w ρ (.binOp op t x y u) K:=by
 unfold fB at hK
 simp only at hK
 split at hK
 ·rename_i k m k' m' h1 h2
  rw [h1] at hx
  rw [h2] at hy
  generalize hva:ρ x=va at hx
  generalize hvb:ρ y=vb at hy
  cases hx
  cases hy
  obtain⟨hk,hK⟩:=hK
  cases op <;> simp only [aB8] at hK <;> simp only [shk,decide_eq_true_eq] at hk <;>(try subst hk)
  case quo=>exact⟨_,_,hK.2,.int _ _,fun w' o' h _=>by simp [execOp,h,hva,hvb,binOp,eqGuard,Op.intDiv,hK.1]⟩
  case rem=>exact⟨_,_,hK.2,.int _ _,fun w' o' h _=>by simp [execOp,h,hva,hvb,binOp,eqGuard,Op.intDiv,hK.1]⟩
  case shl=>exact⟨_,_,hK.2,.int _ _,fun w' o' h _=>by have :=hK.1 trivial;simp [execOp,h,hva,hvb,binOp,eqGuard,Op.shift,show ¬m'<0 by omega]⟩
  case shr=>exact⟨_,_,hK.2,.int _ _,fun w' o' h _=>by have :=hK.1 trivial;simp [execOp,h,hva,hvb,binOp,eqGuard,Op.shift,show ¬m'<0 by omega]⟩
  all_goals first
   |exact⟨_,_,hK,.int _ _,fun w' o' h _=>by simp [execOp,h,hva,hvb,binOp,eqGuard,Op.intArith,Op.intBits,fN]⟩
   |exact⟨_,_,hK,.bool _,fun w' o' h _=>by simp [execOp,h,hva,hvb,binOp,eqGuard,Op.intCmp]⟩
 ·exact absurd hK.1 (by simp)
theorem aU7 {neg:Bool} {op:BinOp} {t u:TypeId} {x y:Operand} {a b:A} (ht:P.underlying t=some .bool)(hop:op=if neg then .neq else .eql)(hx:VR (Own U σ S) w σ (e a) (ρ x))(hy:VR (Own U σ S) w σ (e b) (ρ y))(hK:fB S (.eqb neg a b) e true K):fR P U σ S w ρ (.binOp op t x y u) K:=by
 unfold fB at hK
 simp only at hK
 split at hK
 ·rename_i p q h1 h2
  rw [h1] at hx
  rw [h2] at hy
  generalize hva:ρ x=va at hx
  generalize hvb:ρ y=vb at hy
  cases hx
  cases hy
  cases neg with
  |true=>subst hop;exact⟨_,.bool (!(p==q)),hK,.bool _,fun w' o' h _=>by simp [execOp,h,hva,hvb,binOp,eqGuard,Op.equal,Op.maxDepth,run_equalIn_bool' (P:=P) w' 9999 t p q ht]⟩
  |false=>subst hop;exact⟨_,.bool (p==q),hK,.bool _,fun w' o' h _=>by simp [execOp,h,hva,hvb,binOp,eqGuard,Op.equal,Op.maxDepth,run_equalIn_bool' (P:=P) w' 9999 t p q ht]⟩
 ·exact absurd hK.1 (by simp)
def gT(P:Program)(O:Nat→Prop)(w:World)(σ:Sg)(xs:List V)(t:TypeId)(o:Nat)(v:Value):Prop:=
 match cH P t,bB P t with
 |some true,some n=>∃arr,v=.agg arr∧∀(i:Nat) (y:V),i<n→xs[o+i]? =some y→∃u,arr[i]? =some u∧VR O w σ y u
 |some false,some _=>∀y,xs[o]? =some y→VR O w σ y v
 |_,_=>False
theorem aC6 {O:Nat→Prop} {xs:List V} {arr:Array Value} {o n:Nat} (h:∀(i:Nat) (y:V),i<n→xs[o+i]? =some y→∃u,arr[i]? =some u∧VR O w σ y u) {t:TypeId} {f m:Nat} (hm:bB P t=some m)(ha:(cH P t).isSome=true)(hle:f+m≤n)(hpos:cH P t=some false→m=1)
 (hne:cH P t=some false→∃y,xs[o+f]? =some y):∃v,gT P O w σ xs t (o+f) v∧∀w',(part t arr f).run P w'=.ok v w':=by
 cases hg:cH P t with
 |none=>rw [hg] at ha;cases ha
 |some b=>
  cases b with
  |true=>
   refine⟨.agg (arr.extract f (f+m)),?_,fun w'=>by unfold part;simp [hY hg,bA hm]⟩
   unfold gT
   rw [hg,hm]
   refine⟨_,rfl,fun i y hi hy=>?_⟩
   obtain⟨u,h1,h2⟩:=h (f+i) y (by omega) (by rw [←hy];congr 1;omega)
   refine⟨u,?_,h2⟩
   rw [zS]
   have hlt:=(Array.getElem?_eq_some_iff.1 h1).1
   rw [if_pos (by omega)]
   exact h1
  |false=>
   obtain⟨y,hy⟩:=hne hg
   have h1':=hpos hg
   obtain⟨u,h1,h2⟩:=h f y (by omega) hy
   refine⟨u,?_,fun w'=>by unfold part;simp [hY hg,h1]⟩
   unfold gT
   rw [hg,hm]
   intro y' hy'
   rw [hy] at hy'
   obtain rfl:=Option.some.inj hy'
   exact h2
theorem aUR {t:TypeId} {d:TypeDesc} (h:P.underlying t=some d):(cH P t).isSome=true:=by
 unfold cH;rw [h];cases d <;> rfl
theorem aAJ {d:Nat} {t:TypeId} {o:Nat} {l:List (Nat×Kd)} (h:kJ P d t o=some l):(cH P t).isSome=true:=by
 cases d with
 |zero=>cases h
 |succ d=>
  simp only [kJ] at h
  cases hu:P.underlying t with
  |none=>rw [hu] at h;cases h
  |some k=>exact aUR hu
theorem aG6 {d:Nat} {t:TypeId} {o:Nat} {l:List (Nat×Kd)} (h:kJ P d t o=some l)(hf:cH P t=some false):bB P t=some 1∧∃kd,l=[(o,kd)]:=by
 cases d with
 |zero=>cases h
 |succ d=>
  simp only [kJ] at h
  unfold cH at hf
  split at h
  ·split at h
   ·rename_i h1;exact⟨h1,_,(Option.some.inj h).symm⟩
   ·cases h
  ·split at h
   ·rename_i h1;exact⟨h1,_,(Option.some.inj h).symm⟩
   ·cases h
  ·split at h
   ·rename_i h1;exact⟨h1,_,(Option.some.inj h).symm⟩
   ·cases h
  ·rename_i hu;rw [hu] at hf;cases hf
  ·rename_i hu;rw [hu] at hf;cases hf
  ·cases h
theorem jW {xs ys:List V} {k:List (Nat×Kd)} {K:Bool→Prop} :∀ {l:List (Nat×Kd)} {acc:Bool},fU (l++k) xs ys acc K→fU l xs ys acc fun a=>fU k xs ys a K
 | [],_,h=>h
 | (o,.i)::r,acc,h=>by
   simp only [zQ,fU] at h⊢
   split at h
   ·exact⟨h.1,jW h.2⟩
   ·exact h.elim
 | (o,.b)::r,acc,h=>by
   simp only [zQ,fU] at h⊢
   split at h
   ·exact jW h
   ·exact h.elim
 | (o,.s)::r,acc,h=>by
   simp only [zQ,fU] at h⊢
   split at h
   ·exact jW h
   ·exact h.elim
theorem aPD {o:Nat} {kd:Kd} {r:List (Nat×Kd)} {xs ys:List V} {acc:Bool} {K:Bool→Prop} (h:fU ((o,kd)::r) xs ys acc K):(∃y,xs[o]? =some y)∧∃y,ys[o]? =some y:=by
 cases kd <;> simp only [fU] at h <;> split at h
 all_goals first
  |exact h.elim
  | (rename_i h1 h2;exact⟨⟨_,h1⟩,⟨_,h2⟩⟩)
  | (rename_i h1 h2;exact⟨⟨_,by assumption⟩,⟨_,by assumption⟩⟩)
theorem aA9(a b:ByteArray):(a.toList==b.toList)=lJ a b:=by
 rw [ByteArray.toList_eq,ByteArray.toList_eq];rfl
theorem aFA {O:Nat→Prop} {xs ys:List V} {ax ay:Array Value} {o n d:Nat} (hx:∀(i:Nat) (y:V),i<n→xs[o+i]? =some y→∃u,ax[i]? =some u∧VR O w σ y u)
 (hy:∀(i:Nat) (y:V),i<n→ys[o+i]? =some y→∃u,ay[i]? =some u∧VR O w σ y u) {t:TypeId} {f m:Nat} {l k:List (Nat×Kd)} (hl:kJ P d t (o+f)=some l) (hm:bB P t=some m) (hle:f+m≤n) {acc:Bool} {K:Bool→Prop} (hK:fU (l++k) xs ys acc K):
 ∃u v,gT P O w σ xs t (o+f) u∧gT P O w σ ys t (o+f) v∧∀w',(part t ax f).run P w'=.ok u w'∧(part t ay f).run P w'=.ok v w':=by
 have key:cH P t=some false→m=1∧(∃y,xs[o+f]? =some y)∧∃y,ys[o+f]? =some y:=by
  intro hf
  obtain⟨h1,kd,rfl⟩:=aG6 hl hf
  rw [hm] at h1
  exact⟨Option.some.inj h1,aPD hK⟩
 obtain⟨u,h1,h2⟩:=aC6 hx hm (aAJ hl) hle (fun h=>(key h).1) (fun h=>(key h).2.1)
 obtain⟨v,h3,h4⟩:=aC6 hy hm (aAJ hl) hle (fun h=>(key h).1) (fun h=>(key h).2.2)
 exact⟨u,v,h1,h3,fun w'=>⟨h2 w',h4 w'⟩⟩
theorem aCK {O:Nat→Prop} {xs ys:List V} (D:Nat):∀(d:Nat) (t:TypeId) (o:Nat) (l:List (Nat×Kd)),kJ P d t o=some l→∀(a b:Value),gT P O w σ xs t o a→gT P O w σ ys t o b→∀(acc:Bool) (K:Bool→Prop),fU l xs ys acc K→
 ∃r,K (acc&&r)∧∀w',(Op.equalIn (D+d) t a b).run P w'=.ok r w'
 |0,_,_,_,h=>by cases h
 |d+1,t,o,l,h=>by
  intro a b ha hb acc K hK
  have ih:=aCK (O:=O) (xs:=xs) (ys:=ys) D d
  simp only [kJ] at h
  unfold gT at ha hb
  split at h
  ·rename_i k0 hu
   have hag:cH P t=some false:=by unfold cH;rw [hu]
   split at h
   ·rename_i hz
    obtain rfl:=Option.some.inj h
    rw [hag,hz] at ha hb
    simp only [fU] at hK
    split at hK
    ·rename_i k x k' y h1 h2
     obtain⟨rfl,hK⟩:=hK
     have ha:=ha _ h1
     have hb:=hb _ h2
     cases ha
     cases hb
     exact⟨_,hK,fun w'=>run_equalIn_int w' (D+d) t k k0 x y hu⟩
    ·exact hK.elim
   ·cases h
  ·rename_i hu
   have hag:cH P t=some false:=by unfold cH;rw [hu]
   split at h
   ·rename_i hz
    obtain rfl:=Option.some.inj h
    rw [hag,hz] at ha hb
    simp only [fU] at hK
    split at hK
    ·rename_i x y h1 h2
     have ha:=ha _ h1
     have hb:=hb _ h2
     cases ha
     cases hb
     exact⟨_,hK,fun w'=>run_equalIn_bool' w' (D+d) t x y hu⟩
    ·exact hK.elim
   ·cases h
  ·rename_i hu
   have hag:cH P t=some false:=by unfold cH;rw [hu]
   split at h
   ·rename_i hz
    obtain rfl:=Option.some.inj h
    rw [hag,hz] at ha hb
    simp only [fU] at hK
    split at hK
    ·rename_i x y h1 h2
     have ha:=ha _ h1
     have hb:=hb _ h2
     cases ha
     cases hb
     exact⟨_,hK,fun w'=>by rw [←aA9];exact run_equalIn_string w' (D+d) t x y hu⟩
    ·exact hK.elim
   ·cases h
  ·rename_i fs hu
   have hag:cH P t=some true:=by unfold cH;rw [hu]
   split at h
   ·rename_i n hz
    split at h
    ·rename_i hst
     rw [hag,hz] at ha hb
     obtain⟨ax,rfl,hx⟩:=ha
     obtain⟨ay,rfl,hy⟩:=hb
     have hfo:P.fieldsOf t=fs:=by unfold Program.fieldsOf;rw [hu]
     have fields:∀(fl:List Field) (l:List (Nat×Kd)) (acc:Bool),aG4 (kJ P d) P n o fl=some l→fU l xs ys acc K→∃r,K (acc&&r)∧∀w',(Op.eqFields (D+d) ax ay fl).run P w'=.ok r w':=by
      intro fl
      induction fl with
      |nil=>intro l acc hl hK;obtain rfl:=Option.some.inj hl;exact⟨true,by simpa [fU] using hK,fun w'=>by simp [Op.eqFields]⟩
      |cons f fl ihf=>
       intro l acc hl hK
       simp only [aG4] at hl
       split at hl
       ·rename_i l1 m k1 h1 h2 h3
        split at hl
        ·rename_i h4
         obtain rfl:=Option.some.inj hl
         obtain⟨u,v,c1,c2,c3⟩:=aFA hx hy h1 h2 h4.2 hK
         obtain⟨r1,q1,q2⟩:=ih f.type _ l1 h1 u v c1 c2 acc _ (jW hK)
         obtain⟨r2,q3,q4⟩:=ihf k1 _ h3 q1
         refine⟨r1&&r2,by rw [←Bool.and_assoc];exact q3,fun w'=>?_⟩
         simp only [Op.eqFields,ne_eq,h4.1,not_false_eq_true,if_true,Sem.run_bind,(c3 w').1,(c3 w').2,Result.andThen_ok,q2]
         cases r1 with
         |true=>simp [q4]
         |false=>simp
        ·cases hl
       ·cases hl
     obtain⟨r,q1,q2⟩:=fields fs.toList l acc h hK
     refine⟨r,q1,fun w'=>?_⟩
     rw [←zF,run_equalIn_agg (P:=P) w' (D+d) t ax ay (by rw [hfo];exact hu) hst,hfo]
     exact q2 w'
    ·cases h
   ·cases h
  ·rename_i n e hu
   have hag:cH P t=some true:=by unfold cH;rw [hu]
   split at h
   ·rename_i es m hes hz
    split at h
    ·rename_i hm
     subst hm
     rw [hag,hz] at ha hb
     obtain⟨ax,rfl,hx⟩:=ha
     obtain⟨ay,rfl,hy⟩:=hb
     obtain⟨inf,hinf,hsz⟩:∃inf,P.info? e=some inf∧inf.size=es:=by
      unfold bB at hes
      cases hc:P.info? e with
      |none=>rw [hc] at hes;cases hes
      |some inf=>rw [hc] at hes;exact⟨inf,rfl,Option.some.inj hes⟩
     have hcells:P.cellsOf e=es:=by
      have h1:=run_sizeOf (P:=P) w hinf
      rw [bA hes] at h1
      have :=(Result.ok.inj h1).1
      exact this.symm
     have items:∀(c j:Nat) (l:List (Nat×Kd)) (acc:Bool),j+c≤n→aG5 (fun o=>kJ P d e o) es c (o+j*es)=some l→fU l xs ys acc K→∃r,K (acc&&r)∧∀w',(Op.eqItems (D+d) e es ax ay (List.range' j c)).run P w'=.ok r w':=by
      intro c
      induction c with
      |zero=>intro j l acc _ hl hK;obtain rfl:=Option.some.inj hl;exact⟨true,by simpa [fU] using hK,fun w'=>by simp [Op.eqItems]⟩
      |succ c ihc=>
       intro j l acc hj hl hK
       simp only [aG5] at hl
       split at hl
       ·rename_i l1 k1 h1 h3
        obtain rfl:=Option.some.inj hl
        have hle:j*es+es≤n*es:=by
         have :=Nat.mul_le_mul_right es (show j+1≤n by omega)
         rw [zM,Nat.one_mul] at this;exact this
        obtain⟨u,v,c1,c2,c3⟩:=aFA hx hy h1 hes hle hK
        obtain⟨r1,q1,q2⟩:=ih e _ l1 h1 u v c1 c2 acc _ (jW hK)
        obtain⟨r2,q3,q4⟩:=ihc (j+1) k1 _ (by omega) (by rw [zM,Nat.one_mul,←zF];exact h3) q1
        refine⟨r1&&r2,by rw [←Bool.and_assoc];exact q3,fun w'=>?_⟩
        simp only [List.range'_succ,Op.eqItems,Sem.run_bind,(c3 w').1,(c3 w').2,Result.andThen_ok,q2]
        cases r1 with
        |true=>simp [q4]
        |false=>simp
       ·cases hl
     obtain⟨r,q1,q2⟩:=items n 0 l acc (by omega) (by simpa using h) hK
     refine⟨r,q1,fun w'=>?_⟩
     rw [←zF,run_equalIn_array (P:=P) w' (D+d) ax ay hu hinf,hcells,List.range_eq_range']
     exact q2 w'
    ·cases h
   ·cases h
  ·cases h
theorem aGU {neg:Bool} {l:List (Nat×Kd)} {op:BinOp} {t u:TypeId} {x y:Operand} {a b:A} (ht:cH P t=some true)(hs:eqTy P t=some l)(hop:op=if neg then .neq else .eql)
 (hx:VR (Own U σ S) w σ (e a) (ρ x)) (hy:VR (Own U σ S) w σ (e b) (ρ y)) (hK:fB S (.eqs neg l a b) e true K):fR P U σ S w ρ (.binOp op t x y u) K:=by
 unfold fB at hK
 simp only at hK
 unfold eqTy at hs
 split at hs
 ·rename_i hg
  split at hK
  ·rename_i p q h1 h2
   rw [h1] at hx
   rw [h2] at hy
   generalize hva:ρ x=va at hx
   generalize hvb:ρ y=vb at hy
   cases hx with
   | @agg _ _ ax hnx hcx=>
   cases hy with
   | @agg _ _ ay hny hcy=>
   have hz:∃n,bB P t=some n:=by
    simp only [kJ] at hs
    unfold cH at ht
    split at hs
    ·rename_i hu;rw [hu] at ht;cases ht
    ·rename_i hu;rw [hu] at ht;cases ht
    ·rename_i hu;rw [hu] at ht;cases ht
    ·split at hs
     ·exact⟨_,by assumption⟩
     ·cases hs
    ·split at hs
     ·exact⟨_,by assumption⟩
     ·cases hs
    ·cases hs
   obtain⟨n0,hz⟩:=hz
   have cells:∀ {zs:List V} {az:Array Value},az.size=zs.length→(∀(i:Nat) (y:V) (v:Value),zs[i]? =some y→az[i]? =some v→VR (Own U σ S) w σ y v)→gT P (Own U σ S) w σ zs t 0 (.agg az):=by
    intro zs az hn h
    unfold gT
    rw [ht,hz]
    refine⟨az,rfl,fun i y _ hy=>?_⟩
    rw [zY] at hy
    obtain⟨hi,-⟩:=List.getElem?_eq_some_iff.1 hy
    have :=zC (xs:=az) (i:=i) (by omega)
    exact⟨_,this,h i y _ hy this⟩
   obtain⟨r,hr,hrun⟩:=aCK 9992 8 t 0 l hs (.agg ax) (.agg ay) (cells hnx hcx) (cells hny hcy) true _ hK
   rw [zU] at hr
   cases neg with
   |true=>subst hop;exact⟨_,.bool (!r),hr,.bool _,fun w' o' h _=>by simp [execOp,h,hva,hvb,run_eqGuard_agg (P:=P) w' _ t x y ax ay hg,run_neq_struct,hrun]⟩
   |false=>subst hop;exact⟨_,.bool r,hr,.bool _,fun w' o' h _=>by simp [execOp,h,hva,hvb,run_eqGuard_agg (P:=P) w' _ t x y ax ay hg,run_eql_struct,hrun]⟩
  ·exact absurd hK.1 (by simp)
 ·cases hs
theorem uV {t:TypeId} {fs:Array Field} (h:P.underlying t=some (.struct fs)):cH P t=some true:=by unfold cH;rw [h]
theorem aB2 {t e:TypeId} {n:Nat} (h:P.underlying t=some (.array n e)):cH P t=some true:=by unfold cH;rw [h]
theorem aXT {t:TypeId} {fs:Array Field} {f:Nat} {fd:Field} {agg:Bool} {m:Nat} {x:Operand} {a:A} (ht:P.underlying t=some (.struct fs))(hf:fs[f]? =some fd)(hg:cH P fd.type=some agg)(hz:bB P fd.type=some m)(hn:agg=true∨m=1)
 (hx:VR (Own U σ S) w σ (e a) (ρ x)) (hK:fB S (.fget agg fd.offset m a) e true K):fR P U σ S w ρ (.field t x f) K:=by
 unfold fB at hK
 simp only at hK
 split at hK
 ·rename_i cs h1
  rw [h1] at hx
  generalize hva:ρ x=va at hx
  obtain⟨hle,hK⟩:=hK
  cases hx with
  | @agg _ _ arr hsz h=>
    have hrun:∀(w':World) (o':Oper) (v:Value),o'.op=.field t x f→(part fd.type arr fd.offset).run P w'=.ok v w'→(execOp ρ o').run P w'=.ok (.value v) w':=by
     intro w' o' v ho hp
     simp [execOp,ho,Instr.field,hva,run_underlying ht,hf,asAgg,hp]
    cases agg with
    |true=>
     refine⟨_,.agg (arr.extract fd.offset (fd.offset+m)),hK,?_,fun w' o' ho _=>hrun w' o' _ ho ?_⟩
     ·simp only [nT,if_true]
      split
      ·rename_i hc
       obtain⟨hc0,hc1⟩:=hc
       have :arr.extract fd.offset (fd.offset+m)=arr:=by
        apply Array.ext
        ·simp [hsz];omega
        ·intro i h1 h2;simp [hc0]
       rw [this];exact .agg hsz h
      ·refine .agg (by simp [hsz];omega) fun i y v hi hv=>?_
       rw [zO] at hi
       split at hi
       ·rw [zV] at hi
        rw [zS] at hv
        split at hv
        ·exact h _ y v hi hv
        ·cases hv
       ·cases hi
     ·simp [part,hY hg,bA hz]
    |false=>
     have hm:m=1:=by simpa using hn
     subst hm
     have hlt:fd.offset<arr.size:=by omega
     refine⟨_,arr[fd.offset],hK,?_,fun w' o' ho _=>hrun w' o' _ ho ?_⟩
     ·simp only [nT,zI,if_false]
      have :fd.offset<cs.length:=by omega
      exact h _ _ _ (by simp [zE,zD this]) (zC hlt)
     ·simp [part,hY hg,zC hlt]
 ·exact absurd hK.1 (by simp)
theorem aCZ:∀ {l:List Operand} {xs:List A},l.mapM bF=some xs→xs.length=l.length∧∀(i:Nat) x a,l[i]? =some x→xs[i]? =some a→bF x=some a
 | [],xs,h=>by simp at h;subst h;simp
 |o::r,xs,h=>by
  rw [List.mapM_cons] at h
  cases h1:bF o with
  |none=>simp [h1] at h
  |some a=>
   cases h2:r.mapM bF with
   |none=>simp [h1,h2] at h
   |some ys=>
    simp [h1,h2] at h
    subst h
    obtain⟨e1,e2⟩:=aCZ h2
    refine⟨by simp [e1],fun i x b hi hb=>?_⟩
    cases i with
    |zero=>simp only [zJ,Option.some.injEq] at hi hb;subst hi hb;exact h1
    |succ i=>simp only [zP] at hi hb;exact e2 i x b hi hb
theorem aXW {f:FuncId} {first caps:Array Operand} {xs:List A} (hf:first.toList=[])(hxs:caps.toList.mapM bF=some xs)(he:∀x a,bF x=some a→VR (Own U σ S) w σ (e a) (ρ x))(hK:fB S (.mkfn f xs) e true K):
 fR P U σ S w ρ (.makeFunc (.func f) first caps) K:=by
 obtain⟨hl,hget⟩:=aCZ hxs
 have hf0:first = #[]:=by simpa using hf
 refine⟨_,.func (.func f) #[] (caps.map ρ),hK,.fn (by simp [hl]) fun i y v hi hv=>?_,fun w' o' ho _=>by simp [execOp,ho,Instr.makeFunc,hf0]⟩
 rw [zX,zA] at hi
 obtain⟨a,ha,rfl⟩:=hi
 rw [Array.getElem?_map,zA] at hv
 obtain⟨x,hx,rfl⟩:=hv
 exact he x a (hget i x a (by simpa using hx) ha)
theorem aI6 {t el:TypeId} (ht:P.underlying t=some (.slice el))(d:Nat)(b:Option Addr)(l c:Nat)(w':World):
 (Op.equalIn (d+1) t (.slice b l c) (.slice none 0 0)).run P w'=.ok b.isNone w':=by
 cases b <;> simp [Op.equalIn,run_underlying ht]
theorem aEO {t el:TypeId} (ht:P.underlying t=some (.slice el))(b:Option Addr)(l c:Nat)(w':World):
 (Op.equal t (.slice b l c) (.slice none 0 0)).run P w'=.ok b.isNone w':=aI6 ht 9999 b l c w'
theorem uD {op:BinOp} (h:op=.eql∨op=.neq) {t:TypeId} {x y:Operand} (b b':Option Addr)(l c l' c':Nat)(w':World):
 (eqGuard op t x y (.slice b l c) (.slice b' l' c')).run P w'=.ok () w':=by
 rcases h with rfl |rfl <;> simp [eqGuard]
theorem aJB {neg:Bool} {op:BinOp} {t u el:TypeId} {x:Operand} {a:A} (ht:P.underlying t=some (.slice el))(hop:op=if neg then .neq else .eql)(hc:∀v,ρ (.const v)=v)
 (hx:VR (Own U σ S) w σ (e a) (ρ x)) (hK:fB S (.isnil neg a) e true K):fR P U σ S w ρ (.binOp op t x (.const (.slice none 0 0)) u) K:=by
 have run:∀(b:Option Addr) (l c:Nat),ρ x=.slice b l c→∀(w':World) (o':Oper),o'.op=.binOp op t x (.const (.slice none 0 0)) u→(execOp ρ o').run P w'=.ok (.value (.bool (if neg then !b.isNone else b.isNone))) w':=by
  intro b l c hb w' o' ho
  unfold execOp
  rw [ho]
  simp only [hb,hc]
  cases neg with
  |true=>
   obtain rfl:op=.neq:=hop
   rw [show binOp .neq t (.slice b l c) (.slice none 0 0)=(do pure (.bool (!(←Op.equal t (.slice b l c) (.slice none 0 0))))) from rfl]
   simp only [Sem.run_bind,uD (.inr rfl),Result.andThen_ok,aEO ht,Sem.run_pure,if_true]
  |false=>
   obtain rfl:op=.eql:=hop
   rw [show binOp .eql t (.slice b l c) (.slice none 0 0)=(do pure (.bool (←Op.equal t (.slice b l c) (.slice none 0 0)))) from rfl]
   simp only [Sem.run_bind,uD (.inl rfl),Result.andThen_ok,aEO ht,Sem.run_pure,zI,if_false]
 unfold fB at hK
 simp only at hK
 split at hK
 ·rename_i es t' x0 xs h1
  rw [h1] at hx
  generalize hva:ρ x=va at hx
  cases hx with
  | @lst _ _ _ _ ad cap b o cv ha hes hcap ht' q1 q3 q2=>
    obtain⟨rfl,-⟩:=ha (by simp)
    refine⟨_,.bool neg,hK,.bool _,fun w' o' ho _=>?_⟩
    rw [run _ _ _ hva w' o' ho]
    cases neg <;> rfl
 ·rename_i l c h1
  rw [h1] at hx
  generalize hva:ρ x=va at hx
  cases hx
  refine⟨_,.bool (!neg),hK,.bool _,fun w' o' ho _=>?_⟩
  rw [run _ _ _ hva w' o' ho]
  cases neg <;> rfl
 ·rename_i ad l c h1
  rw [h1] at hx
  generalize hva:ρ x=va at hx
  cases hx
  refine⟨_,.bool neg,hK,.bool _,fun w' o' ho _=>?_⟩
  rw [run _ _ _ hva w' o' ho]
  cases neg <;> rfl
 ·exact absurd hK.1 (by simp)
theorem aUB {x:Operand} {a:A} (hx:VR (Own U σ S) w σ (e a) (ρ x))(hK:fB S (.nilck a) e true K):fR P U σ S w ρ (.nilCheck x) K:=by
 unfold fB at hK
 simp only at hK
 split at hK
 ·rename_i h1
  rw [h1] at hx
  generalize hva:ρ x=va at hx
  cases hx with
  |ptr hs=>exact⟨_,_,hK,.ptr hs,fun w' o' h _=>by simp [execOp,h,hva]⟩
 ·rename_i h1
  rw [h1] at hx
  generalize hva:ρ x=va at hx
  cases hx with
  |rp b o cv hlen hO hb h1 h3 h2=>exact⟨_,_,hK,.rp b o cv hlen hO hb h1 h3 h2,fun w' o' h _=>by simp [execOp,h,hva]⟩
 ·exact absurd hK.1 (by simp)
theorem aXS {i:Nat} {x:Operand} {a:A} (hx:VR (Own U σ S) w σ (e a) (ρ x))(hK:fB S (.extr i a) e true K):fR P U σ S w ρ (.extract x i) K:=by
 unfold fB at hK
 simp only at hK
 split at hK
 ·rename_i vs h1
  rw [h1] at hx
  generalize hva:ρ x=va at hx
  cases hx with
  | @tup _ _ arr hn h=>
    obtain⟨hi,hK⟩:=hK
    have hi':i<arr.size:=hn▸hi
    refine⟨_,arr[i],hK,h i _ _ ?_ (zC hi'),fun w' o' h _=>by simp [execOp,h,hva,Instr.extract,zC hi']⟩
    simp [zE,zD hi]
 ·exact absurd hK.1 (by simp)
theorem aU8 {s:TypeId} {fs:Array Field} {f:Nat} {fd:Field} {m:Nat} {x:Operand} {a:A} (hs:P.underlying s=some (.struct fs))(hf:fs[f]? =some fd)(hz:bB P fd.type=some (m+1))
 (hx:VR (Own U σ S) w σ (e a) (ρ x)) (hK:fB S (.faddr fd.offset a) e true K):fR P U σ S w ρ (.fieldAddr s x f) K:=by
 have run:∀(b o:Nat),ρ x=.pointer (some ⟨b,o,none⟩)→∀(w':World) (o':Oper),o'.op=.fieldAddr s x f→(execOp ρ o').run P w'=.ok (.value (.pointer (some ⟨b,o+fd.offset,none⟩))) w':=by
  intro b o hv w' o' h
  simp [execOp,h,Instr.fieldAt,run_underlying hs,hf,Instr.sureAddr,hv,fieldPlace,bA hz,iM]
 unfold fB at hK
 simp only at hK
 split at hK
 ·rename_i k i c h1
  rw [h1] at hx
  generalize hva:ρ x=va at hx
  cases hx with
  | @ptr _ _ _ _ b es cap hs'=>exact⟨_,.pointer (some ⟨b,i*es+(c+fd.offset),none⟩),hK,.ptr hs',fun w' o' h _=>by rw [run _ _ hva w' o' h,zF]⟩
 ·rename_i es cs c h1
  rw [h1] at hx
  generalize hva:ρ x=va at hx
  cases hx with
  |rp b o cv hlen hO hb h1 h3 h2=>exact⟨_,.pointer (some ⟨b,o+(c+fd.offset),none⟩),hK,.rp b o cv hlen hO hb h1 h3 h2,fun w' o' h _=>by rw [run _ _ hva w' o' h,zF]⟩
 ·exact absurd hK.1 (by simp)
theorem cT(k:IntKind)(j:Int):asIntOf (.int k j)=pure (k,j):=rfl
theorem aOE(hR:aS U σ S w n) {k es' b es cap:Nat} (h:pX (S.get k)=some es')(hs:σ k=some (some b,es,cap)):es=es':=by
 unfold pX at h
 split at h
 ·rename_i ho
  have :=hR.obj k _ ho
  rw [hs] at this
  exact this.2.1.trans (Option.some.inj h)
 ·rename_i ho
  obtain⟨_,_,hl,-⟩:=hR.obj k _ ho
  rw [hs] at hl
  simp only [Option.some.injEq,Prod.mk.injEq] at hl
  rw [hl.2.1];exact Option.some.inj h
 ·cases h
theorem aU9 {t el:TypeId} {es:Nat} {x i:Operand} {a b:A} (ht:P.underlying t=some (.slice el))(hz:bB P el=some es)(hR:aS U σ S w n)
 (hx:VR (Own U σ S) w σ (e a) (ρ x)) (hy:VR (Own U σ S) w σ (e b) (ρ i)) (hK:fB S (.iaddr es a b) e true K):fR P U σ S w ρ (.indexAddr t x i) K:=by
 replace hx:=lK hx
 have run:∀(k:IntKind) (j:Int) (bl o len cap:Nat),ρ x=.slice (some ⟨bl,o,none⟩) len cap→ρ i=.int k j→0≤j→j< (len:Int)→
  ∀(w':World) (o':Oper),o'.op=.indexAddr t x i→(execOp ρ o').run P w'=.ok (.value (.pointer (some ⟨bl,o+j.toNat*es,none⟩))) w':=by
  intro k j bl o len cap h1 h2 h3 h4 w' o' h
  simp [execOp,h,Instr.indexAt,h1,h2,cT,run_underlying ht,h3,h4,bA hz,iM]
 unfold fB at hK
 simp only at hK
 split at hK
 ·rename_i k off len k2 j h1 h2
  rw [h1] at hx
  rw [h2] at hy
  generalize hva:ρ x=va at hx
  generalize hvb:ρ i=vb at hy
  cases hy
  split at hK
  ·rename_i es' ho
   obtain⟨rfl,hj,hK⟩:=hK
   obtain⟨hj0,hj1⟩:=hj trivial
   cases hx with
   | @sl _ _ _ _ bl es cap ad hs hle ha=>
     have hes:es=es':=aOE hR ho hs
     subst hes
     have hlt:off<cap:=by omega
     have hva':=ha hlt
     rw [hva'] at hva
     refine⟨_,.pointer (some ⟨bl,(off+j.toNat)*es+0,none⟩),hK,.ptr hs,fun w' o' h _=>?_⟩
     rw [run _ _ _ _ _ _ hva hvb hj0 hj1 w' o' h]
     simp [zM]
   |sl0 hs=>simp only [Int.ofNat_eq_natCast,zR] at hj1;omega
  ·exact absurd hK.1 (by simp)
 ·rename_i es' t' xs k2 j h1 h2
  rw [h1] at hx
  rw [h2] at hy
  generalize hva:ρ x=va at hx
  generalize hvb:ρ i=vb at hy
  cases hy
  obtain⟨hj,hK⟩:=hK
  obtain⟨rfl,hj0,hj1⟩:=hj trivial
  cases hx with
  | @lst _ _ _ _ ad cap bl o cv ha hes hcap ht' hc1 hc3 hc2=>
    have hlt:j.toNat<xs.length:=by omega
    obtain⟨rfl,hO,hb⟩:=ha (by rintro rfl;simp at hlt)
    have hg:xs.getD j.toNat []=xs[j.toNat]:=by simp [zE,zD hlt]
    refine⟨_,.pointer (some ⟨bl,(o+j.toNat*es')+0,none⟩),hK,?_,fun w' o' h _=>?_⟩
    ·rw [hg]
     exact .rp bl (o+j.toNat*es') (fun c=>cv j.toNat c) (hes _ (zZ hlt)) hO hb (fun c hc=>hc1 _ _ hlt hc) (fun c hc=>hc3 _ _ hlt hc) fun c y hy=>hc2 _ _ c y (zD hlt) hy
    ·rw [run _ _ _ _ _ _ hva hvb hj0 hj1 w' o' h];rfl
 ·exact absurd hK.1 (by simp)
theorem aXU {t el:TypeId} {m es:Nat} {x i:Operand} {a b:A} (ht:P.underlying t=some (.array m el))(hz:bB P el=some es)
 (hx:VR (Own U σ S) w σ (e a) (ρ x)) (hy:VR (Own U σ S) w σ (e b) (ρ i)) (hK:fB S (.iarr m es a b) e true K):fR P U σ S w ρ (.indexAddr t x i) K:=by
 have run:∀(k:IntKind) (j:Int) (bl o:Nat),ρ x=.pointer (some ⟨bl,o,none⟩)→ρ i=.int k j→0≤j→j< (m:Int)→
  ∀(w':World) (o':Oper),o'.op=.indexAddr t x i→(execOp ρ o').run P w'=.ok (.value (.pointer (some ⟨bl,o+j.toNat*es,none⟩))) w':=by
  intro k j bl o h1 h2 h3 h4 w' o' h
  simp [execOp,h,Instr.indexAt,h1,h2,cT,run_underlying ht,h3,h4,bA hz,iM,Instr.sureAddr]
 unfold fB at hK
 simp only at hK
 split at hK
 ·rename_i k i0 c k2 j h1 h2
  rw [h1] at hx
  rw [h2] at hy
  generalize hva:ρ x=va at hx
  generalize hvb:ρ i=vb at hy
  cases hy
  obtain⟨hj,hK⟩:=hK
  obtain⟨hj0,hj1⟩:=hj trivial
  cases hx with
  | @ptr _ _ _ _ bl es2 cap hs=>
    refine⟨_,.pointer (some ⟨bl,i0*es2+(c+j.toNat*es),none⟩),hK,.ptr hs,fun w' o' h _=>?_⟩
    rw [run _ _ _ _ hva hvb hj0 hj1 w' o' h,zF]
 ·rename_i es2 cs c k2 j h1 h2
  rw [h1] at hx
  rw [h2] at hy
  generalize hva:ρ x=va at hx
  generalize hvb:ρ i=vb at hy
  cases hy
  obtain⟨hj,hK⟩:=hK
  obtain⟨hj0,hj1⟩:=hj trivial
  cases hx with
  |rp bl o cv hlen hO hb h1 h3 h2=>
   refine⟨_,.pointer (some ⟨bl,o+(c+j.toNat*es),none⟩),hK,.rp bl o cv hlen hO hb h1 h3 h2,fun w' o' h _=>?_⟩
   rw [run _ _ _ _ hva hvb hj0 hj1 w' o' h,zF]
 ·exact absurd hK.1 (by simp)
theorem aXQ {t el:TypeId} {m:Nat} {x i:Operand} {a b:A} (ht:P.underlying t=some (.array m el))(hz:cH P el=some false∧bB P el=some 1)
 (hx:VR (Own U σ S) w σ (e a) (ρ x)) (hy:VR (Own U σ S) w σ (e b) (ρ i)) (hK:fB S (.aidx m a b) e true K):fR P U σ S w ρ (.index t x i) K:=by
 unfold fB at hK
 simp only at hK
 split at hK
 ·rename_i cs k j h1 h2
  rw [h1] at hx
  rw [h2] at hy
  generalize hva:ρ x=va at hx
  generalize hvb:ρ i=vb at hy
  cases hy
  obtain⟨hl,hj,hK⟩:=hK
  obtain⟨hj0,hj1⟩:=hj trivial
  cases hx with
  | @agg _ _ arr hn h=>
    have hi':j.toNat<arr.size:=by omega
    refine⟨_,arr[j.toNat],hK,h j.toNat _ _ ?_ (zC hi'),fun w' o' h _=>?_⟩
    ·have :j.toNat<cs.length:=by omega
     simp [zE,zD this]
    ·simp [execOp,h,Instr.index,hva,hvb,cT,run_underlying ht,hj0,hj1,bA hz.2,part,hY hz.1,zC hi']
 ·exact absurd hK.1 (by simp)
theorem bD2 {t el:TypeId} {ty:TypeId} {x:Operand} {a:A} (ht:P.underlying t=some (.slice el))(o:Op)(ho:o=.call { callee:=.builtin .len,args:= #[x],argTypes:= #[t] })
 (hx:VR (Own U σ S) w σ (e a) (ρ x)) (hK:fB S (.len a) e true K):fR P U σ S w ρ o K:=by
 replace hx:=lK hx
 have run:∀(ad:Option Addr) (len cap:Nat),ρ x=.slice ad len cap→∀(w':World) (o':Oper),o'.op=o→(execOp ρ o').run P w'=.ok (.value (.int .i64 (len:Int))) w':=by
  intro ad len cap h1 w' o' h
  simp [execOp,h,ho,resolve,invoke,builtin,Builtin.len_,h1,run_underlying ht,goInt]
 unfold fB at hK
 simp only at hK
 split at hK
 ·rename_i k off len h1
  rw [h1] at hx
  generalize hva:ρ x=va at hx
  cases hx with
  |sl hs hle ha=>exact⟨_,_,hK,.int _ _,fun w' o' h _=>run _ _ _ hva w' o' h⟩
  |sl0 hs=>exact⟨_,_,hK,.int _ _,fun w' o' h _=>run _ _ _ hva w' o' h⟩
 ·rename_i es t' xs h1
  rw [h1] at hx
  generalize hva:ρ x=va at hx
  cases hx with
  |lst b o cv ha hes hcap ht hc1 hc3 hc2=>exact⟨_,_,hK,.int _ _,fun w' o' h _=>run _ _ _ hva w' o' h⟩
 ·exact absurd hK.1 (by simp)
theorem bD3 {x y:Operand} {a b:A} {ts:Array TypeId} (o:Op)(ho:o=.call { callee:=.builtin .max,args:= #[x,y],argTypes:=ts })
 (hx:VR (Own U σ S) w σ (e a) (ρ x)) (hy:VR (Own U σ S) w σ (e b) (ρ y)) (hK:fB S (.mx a b) e true K):fR P U σ S w ρ o K:=by
 unfold fB at hK
 simp only at hK
 split at hK
 ·rename_i k m k' m' h1 h2
  rw [h1] at hx
  rw [h2] at hy
  generalize hva:ρ x=va at hx
  generalize hvb:ρ y=vb at hy
  cases hx
  cases hy
  refine⟨_,_,hK,.int _ _,fun w' o' h _=>?_⟩
  simp [execOp,h,ho,resolve,invoke,builtin,Builtin.max_,Builtin.max2,hva,hvb]
  omega
 ·exact absurd hK.1 (by simp)
theorem bD4 {x y:Operand} {a b:A} {ts:Array TypeId} (o:Op)(ho:o=.call { callee:=.builtin .min,args:= #[x,y],argTypes:=ts })
 (hx:VR (Own U σ S) w σ (e a) (ρ x)) (hy:VR (Own U σ S) w σ (e b) (ρ y)) (hK:fB S (.mn a b) e true K):fR P U σ S w ρ o K:=by
 unfold fB at hK
 simp only at hK
 split at hK
 ·rename_i k m k' m' h1 h2
  rw [h1] at hx
  rw [h2] at hy
  generalize hva:ρ x=va at hx
  generalize hvb:ρ y=vb at hy
  cases hx
  cases hy
  refine⟨_,_,hK,.int _ _,fun w' o' h _=>?_⟩
  simp [execOp,h,ho,resolve,invoke,builtin,Builtin.min_,Builtin.min2,hva,hvb]
  omega
 ·exact absurd hK.1 (by simp)
def bnd(ρ:Operand→Value)(o:Option Operand)(d:Int)(j:Int):Prop:=
 match o with
 |none=>j=d
 |some x=>∃k,ρ x=.int k j
theorem tG {t el:TypeId} {es:Nat} {x:Operand} {lo hi:Option Operand} (ht:P.underlying t=some (.slice el))(hz:bB P el=some es)
 {ad:Option Addr} {len cap:Nat} {l h:Int} (hx:ρ x=.slice ad len cap) (hl:bnd ρ lo 0 l) (hh:bnd ρ hi (len:Int) h) (hcap:len≤cap) (h0:0≤l) (h1:l≤h) (h2:h≤(len:Int))
 (w':World) (o':Oper) (ho:o'.op=.slice t x lo hi none):
 (execOp ρ o').run P w'=.ok (.value (.slice (if cap=l.toNat then ad else ad.map (·.add (l.toNat*es))) (h.toNat-l.toNat) (cap-l.toNat))) w':=by
 have hhc:h≤(cap:Int):=by omega
 have h0h:0≤h:=by omega
 have el:((h.toNat:Nat):Int)=h:=zT h0h
 cases lo with
 |none=>
  obtain rfl:l=0:=hl
  cases hi with
  |none=>
   obtain rfl:h=(len:Int):=hh
   simp [execOp,ho,Instr.sliceAt,run_underlying ht,Instr.slice,hx,Instr.sliceBounds,bA hz]
  |some y=>
   obtain⟨k,hy⟩:=hh
   simp [execOp,ho,Instr.sliceAt,run_underlying ht,Instr.slice,hx,Instr.sliceBounds,bA hz,hy,Instr.sliceBound,cT,h0h,hhc]
 |some z=>
  obtain⟨kz,hz'⟩:=hl
  cases hi with
  |none=>
   obtain rfl:h=(len:Int):=hh
   simp [execOp,ho,Instr.sliceAt,run_underlying ht,Instr.slice,hx,Instr.sliceBounds,bA hz,hz',Instr.sliceBound,cT,h0,h1]
  |some y=>
   obtain⟨k,hy⟩:=hh
   simp [execOp,ho,Instr.sliceAt,run_underlying ht,Instr.slice,hx,Instr.sliceBounds,bA hz,hy,hz',Instr.sliceBound,cT,h0h,hhc,h0,el,h1]
theorem aGV {t el:TypeId} {es:Nat} {x:Operand} {lo hi:Option Operand} {a:A} {la ha:Option A} (ht:P.underlying t=some (.slice el))(hz:bB P el=some es)(hR:aS U σ S w n)
 (hx:VR (Own U σ S) w σ (e a) (ρ x))
 (hlo:match lo,la with |none,none=>True |some l,some l'=>VR (Own U σ S) w σ (e l') (ρ l)|_,_=>False)
 (hhi:match hi,ha with |none,none=>True |some l,some l'=>VR (Own U σ S) w σ (e l') (ρ l)|_,_=>False)
 (hK:fB S (.slc es a la ha) e true K):fR P U σ S w ρ (.slice t x lo hi none) K:=by
 replace hx:=lK hx
 have bl:∀(o:Option Operand) (oa:Option A) (d j:Int) (k:IntKind),(match o,oa with |none,none=>True |some l,some l'=>VR (Own U σ S) w σ (e l') (ρ l)|_,_=>False)→
  (match oa with |none=>V.int .i64 d |some l=>e l)=.int k j→bnd ρ o d j:=by
  intro o oa d j k h1 h2
  cases o with
  |none=>
   cases oa with
   |none=>simp only [V.int.injEq] at h2;exact h2.2.symm
   |some _=>exact h1.elim
  |some x=>
   cases oa with
   |none=>exact h1.elim
   |some x'=>
    simp only at h1 h2
    rw [h2] at h1
    generalize hv:ρ x=v at h1
    cases h1
    exact⟨k,hv⟩
 unfold fB at hK
 simp only at hK
 split at hK
 ·rename_i k off len h1
  rw [h1] at hx
  generalize hva:ρ x=va at hx
  split at hK
  ·rename_i es' ho
   split at hK
   ·rename_i k1 l k2 h e1 e2
    obtain⟨rfl,hb,hK⟩:=hK
    obtain⟨b0,b1,b2⟩:=hb trivial
    have B1:=bl lo la 0 l k1 hlo e1
    have B2:=bl hi ha (len:Int) h k2 hhi e2
    cases hx with
    | @sl _ _ _ _ blk es2 cap ad hs hle had=>
      have hes:es2=es':=aOE hR ho hs
      subst hes
      refine⟨_,_,hK,?_,fun w' o' hop _=>tG ht hz hva B1 B2 (by omega) b0 b1 b2 w' o' hop⟩
      rw [show cap-off-l.toNat=cap- (off+l.toNat) by omega]
      refine .sl hs (by omega) fun hlt=>?_
      rw [if_neg (by omega),had (by omega)]
      simp [iM,zM]
    |sl0 hs=>
     simp only [zR] at b2
     obtain rfl:l=0:=by omega
     obtain rfl:h=0:=by omega
     exact⟨_,_,hK,.sl0 hs,fun w' o' hop _=>by rw [tG ht hz hva B1 B2 (by omega) b0 b1 b2 w' o' hop];rfl⟩
   ·exact absurd hK.1 (by simp)
  ·exact absurd hK.1 (by simp)
 ·rename_i es' t' xs h1
  rw [h1] at hx
  generalize hva:ρ x=va at hx
  split at hK
  ·rename_i k1 l k2 h e1 e2
   obtain⟨hb,hK⟩:=hK
   obtain⟨b3,b0,b1,b2⟩:=hb trivial
   have B1:=bl lo la 0 l k1 hlo e1
   have B2:=bl hi ha (xs.length:Int) h k2 hhi e2
   cases hx with
   | @lst _ _ _ _ ad cap blk o cv had hes hcap ht' hc1 hc3 hc2=>
     have hlen:(yA l.toNat (yB h.toNat xs)).length=h.toNat-l.toNat:=by simp;omega
     have hget:∀i,i<h.toNat-l.toNat→(yA l.toNat (yB h.toNat xs))[i]? =xs[l.toNat+i]? :=by
      intro i hi
      rw [zV,zO,if_pos (by omega)]
     refine⟨_,.slice (if cap=l.toNat then ad else ad.map (·.add (l.toNat*es))) (yA l.toNat (yB h.toNat xs)).length (cap-l.toNat),hK,?_,fun w' o' hop _=>?_⟩
     ·refine .lst blk (o+l.toNat*es') (fun i c=>cv (l.toNat+i) c) (fun hne=>?_) (fun x hx=>hes x (List.mem_of_mem_take (List.mem_of_mem_drop hx))) (by rw [hlen];omega) (by simp) (fun i c hi hc=>?_) (fun i c hi hc=>hc3 _ _ (by rw [hlen] at hi;omega) hc) fun i x c y hi hy=>?_
      ·have hpos:0< (yA l.toNat (yB h.toNat xs)).length:=List.length_pos_iff.2 hne
       rw [hlen] at hpos
       have hxs:xs≠ []:=by rintro rfl;simp at b2;omega
       obtain⟨rfl,hO,hblk⟩:=had hxs
       rw [if_neg (by omega)]
       rcases b3 with rfl |h
       ·exact⟨by simp [iM],hO,hblk⟩
       ·exact absurd h hxs
      ·rw [hlen] at hi
       have :=hc1 (l.toNat+i) c (by omega) hc
       rw [zM,←zF] at this
       exact this
      ·obtain⟨hi',_⟩:=List.getElem?_eq_some_iff.1 hi
       rw [hlen] at hi'
       rw [hget i hi'] at hi
       exact hc2 _ _ _ _ hi hy
     ·rw [tG ht hz hva B1 B2 hcap b0 b1 b2 w' o' hop,hlen]
  ·exact absurd hK.1 (by simp)
 ·exact absurd hK.1 (by simp)
theorem aAW {t el:TypeId} {es:Nat} {x hi mx:Operand} {lo:Option Operand} (ht:P.underlying t=some (.slice el))(hz:bB P el=some es)
 {ad:Option Addr} {len cap:Nat} {l h:Int} {k1 k2:IntKind} (hx:ρ x=.slice ad len cap) (hl:bnd ρ lo 0 l) (hh:ρ hi=.int k1 h) (hm:ρ mx=.int k2 h) (hcap:len≤cap) (h0:0≤l) (h1:l≤h) (h2:h≤(len:Int))
 (w':World) (o':Oper) (ho:o'.op=.slice t x lo (some hi) (some mx)):
 (execOp ρ o').run P w'=.ok (.value (.slice (if h.toNat=l.toNat then ad else ad.map (·.add (l.toNat*es))) (h.toNat-l.toNat) (h.toNat-l.toNat))) w':=by
 have hhc:h≤(cap:Int):=by omega
 have h0h:0≤h:=by omega
 have el:((h.toNat:Nat):Int)=h:=zT h0h
 cases lo with
 |none=>
  obtain rfl:l=0:=hl
  simp [execOp,ho,Instr.sliceAt,run_underlying ht,Instr.slice,hx,Instr.sliceBounds,bA hz,hh,hm,Instr.sliceBound,cT,h0h,hhc,el]
 |some z=>
  obtain⟨kz,hz'⟩:=hl
  simp [execOp,ho,Instr.sliceAt,run_underlying ht,Instr.slice,hx,Instr.sliceBounds,bA hz,hh,hm,hz',Instr.sliceBound,cT,h0h,hhc,h0,el,h1]
theorem aO7 {t el:TypeId} {es:Nat} {x hi mx:Operand} {lo:Option Operand} {a ha ma:A} {la:Option A} (ht:P.underlying t=some (.slice el))(hz:bB P el=some es)(hR:aS U σ S w n)
 (hx:VR (Own U σ S) w σ (e a) (ρ x))
 (hlo:match lo,la with |none,none=>True |some l,some l'=>VR (Own U σ S) w σ (e l') (ρ l)|_,_=>False)
 (hhi:VR (Own U σ S) w σ (e ha) (ρ hi)) (hmx:VR (Own U σ S) w σ (e ma) (ρ mx))
 (hK:fB S (.slc3 es a la ha ma) e true K):fR P U σ S w ρ (.slice t x lo (some hi) (some mx)) K:=by
 replace hx:=lK hx
 unfold fB at hK
 simp only at hK
 split at hK
 ·rename_i k off len h1
  rw [h1] at hx
  generalize hva:ρ x=va at hx
  split at hK
  ·rename_i es' xs ho
   split at hK
   ·rename_i k1 l k2 h k3 m e1 e2 e3
    obtain⟨rfl,hb,hK⟩:=hK
    obtain⟨b0,b1,rfl,b2⟩:=hb trivial
    rw [e2] at hhi
    rw [e3] at hmx
    generalize hvh:ρ hi=vh at hhi
    generalize hvm:ρ mx=vm at hmx
    cases hhi
    cases hmx
    have B1:bnd ρ lo 0 l:=by
     cases lo with
     |none=>
      cases la with
      |none=>simp only [V.int.injEq] at e1;exact e1.2.symm
      |some _=>exact hlo.elim
     |some z=>
      cases la with
      |none=>exact hlo.elim
      |some z'=>
       simp only at hlo e1
       rw [e1] at hlo
       generalize hv:ρ z=v at hlo
       cases hlo
       exact⟨_,hv⟩
    cases hx with
    | @sl _ _ _ _ blk es2 cap ad hs hle had=>
      have hes:es2=es':=by
       have :=hR.obj k _ ho
       rw [hs] at this
       exact this.2.1
      subst hes
      refine⟨_,_,hK,?_,fun w' o' hop _=>aAW ht hz hva B1 hvh hvm (by omega) b0 b1 b2 w' o' hop⟩
      refine .slx hs (by omega) fun hlt=>?_
      rw [if_neg (by omega),had (by omega)]
      simp [iM,zM]
    |sl0 hs=>
     simp only [zR] at b2
     obtain rfl:l=0:=by omega
     obtain rfl:h=0:=by omega
     exact⟨_,_,hK,.slx0 hs,fun w' o' hop _=>by rw [aAW ht hz hva B1 hvh hvm (by omega) b0 b1 b2 w' o' hop];rfl⟩
   ·exact absurd hK.1 (by simp)
  ·exact absurd hK.1 (by simp)
 ·exact absurd hK.1 (by simp)
structure KeyLaw(P:Program)(kt:TypeId)(key:List Int):Prop where
 chk:∀em w,(Instr.checkKey em 10000 kt (uF key)).run P w=.ok () w
 stay:∀w,(Instr.keyThatStays (uF key) (uF key)).run P w=.ok (uF key) w
 find:∀(O:Nat→Prop) (w:World) (z:V) (l:List MapEntry) (xs:List (List Int×V)),l.length=xs.length→(∀(i:Nat) (p:List Int×V),xs[i]? =some p→∃en,l[i]? =some en∧(p.1.length=key.length∧en.key=uF p.1)∧VR O w (fun _=>none) p.2 en.val)→
  ((∀w',(Instr.findKey kt (uF key) l).run P w'=.ok none w')∧lA xs key=false∧dZ xs key z=z∧(∀v,fW xs key v=xs++ [(key,v)]))∨
  ∃idx val,(∀w',(Instr.findKey kt (uF key) l).run P w'=.ok (some (idx,val)) w')∧lA xs key=true∧VR O w (fun _=>none) (dZ xs key z) val∧idx<xs.length∧(∀p,xs[idx]? =some p→p.1=key)∧(∀v,fW xs key v=xs.set idx (key,v))
theorem vL {O:Nat→Prop} {R:List MapEntry→Nat→Option (Nat×Value)→Prop} (key:List Int)(hnil:∀i,R [] i none)(hhit:∀en l i,en.key=uF key→R (en::l) i (some (i,en.val)))
 (hmiss:∀en l i k r,k.length=key.length→k≠key→en.key=uF k→R l (i+1) r→R (en::l) i r) (z:V):
 ∀(l:List MapEntry) (xs:List (List Int×V)) (i0:Nat),l.length=xs.length→(∀(i:Nat) (p:List Int×V),xs[i]? =some p→∃en,l[i]? =some en∧(p.1.length=key.length∧en.key=uF p.1)∧VR O w (fun _=>none) p.2 en.val)→
 (R l i0 none∧lA xs key=false∧dZ xs key z=z∧(∀v,fW xs key v=xs++ [(key,v)]))∨
 ∃idx val,R l i0 (some (i0+idx,val))∧lA xs key=true∧VR O w (fun _=>none) (dZ xs key z) val∧idx<xs.length∧(∀p,xs[idx]? =some p→p.1=key)∧(∀v,fW xs key v=xs.set idx (key,v))
 | [],[],i0,_,_=>.inl ⟨hnil i0,rfl,rfl,fun _=>rfl⟩
 | [],_::_,_,h,_=>by simp at h
 |_::_,[],_,h,_=>by simp at h
 |en::l,(k,v)::xs,i0,h,hx=>by
  obtain⟨en',h1,⟨hl,h2⟩,h3⟩:=hx 0 (k,v) rfl
  obtain rfl:en=en':=by simpa using h1
  by_cases hk:k=key
  ·subst hk
   refine .inr ⟨0,en.val,hhit _ _ _ h2,by simp [lA],by simpa [dZ] using h3,by simp,fun p hp=>?_,fun u=>by simp [fW]⟩
   simp only [zJ,Option.some.injEq] at hp;rw [←hp]
  ·rcases vL key hnil hhit hmiss z l xs (i0+1) (by simpa using h) (fun i p hp=>by simpa using hx (i+1) p (by simpa using hp)) with ⟨q1,q2,q3,q4⟩| ⟨idx,val,q1,q2,q3,q4,q5,q6⟩
   ·exact .inl ⟨hmiss _ _ _ _ _ hl hk h2 q1,by simp [lA,hk,q2],by simp [dZ,hk,q3],fun u=>by simp [fW,hk,q4 u]⟩
   ·refine .inr ⟨idx+1,val,?_,by simp [lA,hk,q2],by simpa [dZ,hk] using q3,by simp;omega,fun p hp=>q5 p (by simpa using hp),fun u=>by simp [fW,hk,q6 u]⟩
    have :=hmiss en l i0 k _ hl hk h2 q1
    rwa [show i0+(idx+1)=i0+1+idx by omega]
theorem KeyLaw.int {kt:TypeId} (hk:P.underlying kt=some (.int .i64))(j:Int):KeyLaw P kt [j] where
 chk em w:=MapKept.run_checkKey (k:=.int .i64 j) hk (by simp [MapKept.IsKey]) em 9999
 stay w:=MapKept.run_keyThatStays (d:=.int .i64) (k:=.int .i64 j) (by simp [MapKept.IsKey])
 find O w z l xs hl hx:=by
  rcases vL (O:=O) (w:=w) (R:=fun l i r=>Instr.findNow (.int .i64) (.int .i64 j) l i=some r) [j] (fun _=>rfl) (fun en l i he=>by simp [Instr.findNow,Instr.sameNow,he,uF])
   (fun en l i k r hkl hne he hr=>by
    match k,hkl with
    | [n],_=>
      have hnj:(j==n)=false:=by simpa using fun e:j=n=>hne (by rw [e])
      simpa [Instr.findNow,Instr.sameNow,he,uF,hnj] using hr) z l xs 0 hl hx with ⟨q1,q2⟩| ⟨idx,val,q1,q2⟩
  ·exact .inl ⟨fun w'=>MapKept.run_findKey hk q1,q2⟩
  ·rw [zY] at q1
   exact .inr ⟨idx,val,fun w'=>MapKept.run_findKey hk q1,q2⟩
theorem uS {kt:TypeId} {fs:Array Field} (hu:P.underlying kt=some (.struct fs)) {cs:Array Value} (hf:∀f∈fs.toList,P.underlying f.type=some (.int .i64)∧cH P f.type=some false∧f.offset<cs.size)(em:Bool)(n:Nat):
 (Instr.checkKey em (n+2) kt (.agg cs)).run P w=.ok () w:=by
 have one:∀f∈fs.toList,∃v,(part f.type cs f.offset).run P w=.ok v w∧(Instr.checkKey em (n+1) f.type v).run P w=.ok () w:=fun f hm=>by
  obtain⟨h1,h2,h3⟩:=hf f hm
  refine⟨cs[f.offset],by simp [part,hY h2,zC h3],?_⟩
  unfold Instr.checkKey
  simp only [Sem.run_bind,run_underlying h1,Result.andThen_ok]
  rfl
 unfold Instr.checkKey
 simp only [Sem.run_bind,run_underlying hu,Result.andThen_ok]
 rw [←Array.forIn_toList]
 generalize fs.toList=l at one
 induction l with
 |nil=>simp
 |cons f r ih=>
  obtain⟨v,h1,h2⟩:=one f (by simp)
  rw [List.forIn_cons]
  by_cases hn:f.name= "_"
  ·simp only [hn,ne_eq,not_true_eq_false,if_false]
   simp only [Sem.run_bind,Sem.run_pure,Result.andThen_ok]
   exact ih fun g hg=>one g (by simp [hg])
  ·simp only [hn,ne_eq,not_false_eq_true,if_true]
   simp only [Sem.run_bind,h1,h2,Sem.run_pure,Result.andThen_ok]
   exact ih fun g hg=>one g (by simp [hg])
theorem rB {t:TypeId} (ht:cH P t=some true)(hs:kJ P 8 t 0=some [(0,.i),(1,.i)])(hz:bB P t=some 2)(a b c d:Int)(w:World):
 (Op.equal t (.agg #[.int .i64 a,.int .i64 b]) (.agg #[.int .i64 c,.int .i64 d])).run P w=.ok (decide ([c,d]=[a,b])) w:=by
 have cells:∀x y:Int,gT P (fun _=>False) w (fun _=>none) [.int .i64 x,.int .i64 y] t 0 (.agg #[.int .i64 x,.int .i64 y]):=fun x y=>by
  unfold gT
  rw [ht,hz]
  refine⟨_,rfl,fun i u hi hu=>?_⟩
  match i with
  |0=>simp at hu;subst hu;exact⟨_,rfl,.int _ _⟩
  |1=>simp at hu;subst hu;exact⟨_,rfl,.int _ _⟩
  |i+2=>omega
 obtain⟨r,hr,hrun⟩:=aCK 9992 8 t 0 _ hs _ _ (cells a b) (cells c d) true (fun r=>r=(true&&(a==c)&&(b==d))) ⟨rfl,rfl,rfl⟩
 rw [zU] at hr
 rw [show(Op.equal t (.agg #[.int .i64 a,.int .i64 b]) (.agg #[.int .i64 c,.int .i64 d]))=Op.equalIn (9992+8) t (.agg #[.int .i64 a,.int .i64 b]) (.agg #[.int .i64 c,.int .i64 d]) from rfl,hrun w,hr]
 congr 1
 rw [Bool.eq_iff_iff]
 simp only [zL,zU,beq_iff_eq,decide_eq_true_iff,List.cons.injEq,and_true]
 constructor <;> rintro ⟨rfl,rfl⟩<;> exact⟨rfl,rfl⟩
theorem aLI {kt:TypeId} {fs:Array Field} (h:aDC P kt fs=true):cH P kt=some true∧bB P kt=some 2∧kJ P 8 kt 0=some [(0,.i),(1,.i)]∧∀f∈fs.toList,P.underlying f.type=some (.int .i64)∧cH P f.type=some false∧f.offset<2:=by
 unfold aDC at h
 rw [zL] at h
 obtain⟨h1,h2⟩:=h
 split at h1
 ·rename_i e1 e2 e3
  refine⟨e1,e2,e3,fun f hf=>?_⟩
  have :=List.all_eq_true.1 h2 f hf
  rw [zL,zL] at this
  obtain⟨g1,g2,g3⟩:=this
  refine⟨?_,?_,by simp [Nat.blt] at g3;omega⟩
  ·unfold aZ6 at g1
   split at g1
   ·assumption
   ·cases g1
  ·split at g2
   ·assumption
   ·cases g2
 ·cases h1
theorem KeyLaw.pair {kt:TypeId} {fs:Array Field} (hk:P.underlying kt=some (.struct fs))(hp:aDC P kt fs=true)(a b:Int):KeyLaw P kt [a,b]:=by
 obtain⟨p1,p2,p3,p4⟩:=aLI hp
 have hfk:∀(l:List MapEntry) (r:Option (Nat×Value)),(∀w',(Instr.findAsking kt (.agg #[.int .i64 a,.int .i64 b]) l).run P w'=.ok r w')→∀w',(Instr.findKey kt (uF [a,b]) l).run P w'=.ok r w':=fun l r h w'=>by
  have e:=run_findKey_eq (P:=P) w' (k:=kt) (by rw [hk]) (uF [a,b]) l
  rw [e];exact h w'
 refine⟨fun em w=>uS (cs:= #[.int .i64 a,.int .i64 b]) hk (fun f hf=>⟨(p4 f hf).1,(p4 f hf).2.1,(p4 f hf).2.2⟩) em 9998,fun w=>?_,fun O w z l xs hl hx=>?_⟩
 ·simp [Instr.keyThatStays,uF,Instr.sameBits]
 ·rcases vL (O:=O) (w:=w) (R:=fun l i r=>∀w',(Instr.findAsking kt (.agg #[.int .i64 a,.int .i64 b]) l i).run P w'=.ok r w') [a,b] (fun _ _=>rfl)
   (fun en l i he w'=>by
    simp only [Instr.findAsking,Sem.run_bind,he,uF,List.map_cons,List.map_nil,rB p1 p3 p2,Result.andThen_ok,decide_true,if_true]
    rfl)
   (fun en l i k r hkl hne he hr w'=>by
    match k,hkl with
    | [c,d],_=>
      simp only [Instr.findAsking,Sem.run_bind,he,uF,List.map_cons,List.map_nil,rB p1 p3 p2,Result.andThen_ok,hne,decide_false,zI,if_false]
      exact hr w') z l xs 0 hl hx with ⟨q1,q2⟩| ⟨idx,val,q1,q2⟩
  ·exact .inl ⟨hfk l _ q1,q2⟩
  ·rw [zY] at q1
   exact .inr ⟨idx,val,hfk l _ q1,q2⟩
theorem aJC {t kt el:TypeId} {zv:Value} {z:V} {ok:Bool} {x i:Operand} {key:List Int} {k:Nat} {xs:List (List Int×V)} {vx:Value} {K:V→Prop} (ht:P.underlying t=some (.map kt el))(hL:KeyLaw P kt key)(hz:(P.info? el).bind (·.zero)=some zv)(hzv:vOf zv=some z)
 (hR:aS U σ S w n) (hvx:ρ x=vx) (hx:VR (Own U σ S) w σ (.mp k) vx) (hi:ρ i=uF key) (ho:S.get k=some (.mp (key.length,xs)))
 (hK:match ok with |true=>K (.tup [dZ xs key z,.bool (lA xs key)])|false=>K (dZ xs key z)):fR P U σ S w ρ (.lookup t x i ok) K:=by
 cases hx with
 | @mp _ k bl es0 cap hs=>
   have hob:=hR.obj k _ ho
   rw [hs] at hob
   obtain⟨b',hl,es,ck,hh,hsz,hent⟩:=hob
   simp only [Option.some.injEq,Prod.mk.injEq] at hl
   obtain⟨rfl,-,-⟩:=hl
   have hbl:bl<w.heap.size:=(Array.getElem?_eq_some_iff.1 hh).1
   obtain⟨inf,hinf,hzero⟩:∃inf,P.info? el=some inf∧inf.zero=some zv:=by
    cases hc:P.info? el with
    |none=>simp [hc] at hz
    |some inf=>exact⟨inf,rfl,by simpa [hc] using hz⟩
   have keyr:∃cv,VR (Own U σ S) w σ (dZ xs key z) cv∧∀(w':World),sA w w'→(Instr.lookup t (.map (some bl)) (uF key) ok).run P w'=.ok (if ok=true then .tuple #[cv,.bool (lA xs key)] else cv) w':=by
    have run:∀(w':World) (fr:Option (Nat×Value)) (_:sA w w'),(∀w',(Instr.findKey kt (uF key) es.toList).run P w'=.ok fr w')→
     (Instr.lookup t (.map (some bl)) (uF key) ok).run P w'=.ok (if ok=true then .tuple #[match fr with |some (_,v)=>v |none=>zv,.bool fr.isSome] else match fr with |some (_,v)=>v |none=>zv) w':=by
     intro w' fr hs hfr
     have hh':w'.heap[bl]? =some (.map es ck):=(hs bl hbl).trans hh
     unfold Instr.lookup
     simp only [Sem.run_bind,run_underlying ht,Result.andThen_ok,MapKept.run_getObj_map hh',Sem.run_pure,hL.chk,hfr]
     cases fr with
     |none=>cases ok <;> simp [zeroValue,typeInfo,hinf,hzero,Result.andThen]
     |some p=>obtain⟨p1,p2⟩:=p;cases ok <;> simp [Result.andThen]
    rcases hL.find (Own U σ S) w z es.toList xs (by simpa using hsz) (fun i p hp=>by simpa using hent i p hp) with ⟨q1,q2,q3,-⟩| ⟨idx,val,q1,q2,q3,-,-,-⟩
    ·refine⟨zv,by rw [q3];exact aM8 hzv _ _ _,fun w' hs=>?_⟩
     rw [run w' _ hs q1,q2];rfl
    ·refine⟨val,q3.lift σ,fun w' hs=>?_⟩
     rw [run w' _ hs q1,q2];rfl
   obtain⟨cv,hv,hrun⟩:=keyr
   cases ok with
   |true=>
    refine⟨_,.tuple #[cv,.bool (lA xs key)],hK,.tup rfl (fun i y v hy hv'=>?_),fun w' o' ho' hs=>?_⟩
    ·match i with
     |0=>simp at hy hv';subst hy hv';exact hv
     |1=>simp at hy hv';subst hy hv';exact .bool _
     |i+2=>simp at hy
    ·simp only [execOp,ho',hvx,hi,Sem.run_bind,hrun w' hs,Result.andThen_ok];rfl
   |false=>
    refine⟨_,cv,hK,hv,fun w' o' ho' hs=>?_⟩
    simp only [execOp,ho',hvx,hi,Sem.run_bind,hrun w' hs,Result.andThen_ok];rfl
theorem aXV {t kt el:TypeId} {zv:Value} {z:V} {ok:Bool} {x i:Operand} {a b:A} (ht:P.underlying t=some (.map kt el))(hk:P.underlying kt=some (.int .i64))(hz:(P.info? el).bind (·.zero)=some zv)(hzv:vOf zv=some z)
 (hR:aS U σ S w n) (hx:VR (Own U σ S) w σ (e a) (ρ x)) (hi:VR (Own U σ S) w σ (e b) (ρ i)) (hK:fB S (.mget z ok a b) e true K):fR P U σ S w ρ (.lookup t x i ok) K:=by
 unfold fB at hK
 simp only at hK
 split at hK
 ·rename_i k j hea heb
  rw [hea] at hx
  rw [heb] at hi
  split at hK
  ·rename_i xs ho
   refine aJC ht (KeyLaw.int hk j) hz hzv hR rfl hx ?_ ho hK
   generalize ρ i=vi at hi
   cases hi;rfl
  ·exact absurd hK.1 (by simp)
 ·exact absurd hK.1 (by simp)
theorem aNZ {O:Nat→Prop} {w:World} {σ:Sg} {a b:Int} {v:Value} (h:VR O w σ (.agg [.int .i64 a,.int .i64 b]) v):v=uF [a,b]:=by
 cases h with
 | @agg _ _ arr hn hc=>
   rcases arr with ⟨l⟩
   match l,hn with
   | [x,y],_=>
     have h0:=hc 0 _ x rfl rfl
     have h1:=hc 1 _ y rfl rfl
     cases h0
     cases h1
     rfl
theorem aUA {t kt el:TypeId} {fs:Array Field} {zv:Value} {z:V} {ok:Bool} {x i:Operand} {a b:A} (ht:P.underlying t=some (.map kt el))(hk:P.underlying kt=some (.struct fs))(hp:aDC P kt fs=true)(hz:(P.info? el).bind (·.zero)=some zv)(hzv:vOf zv=some z)
 (hR:aS U σ S w n) (hx:VR (Own U σ S) w σ (e a) (ρ x)) (hi:VR (Own U σ S) w σ (e b) (ρ i)) (hK:fB S (.mgetp z ok a b) e true K):fR P U σ S w ρ (.lookup t x i ok) K:=by
 unfold fB at hK
 simp only at hK
 split at hK
 ·rename_i k c d hea heb
  rw [hea] at hx
  rw [heb] at hi
  split at hK
  ·rename_i xs ho
   exact aJC ht (KeyLaw.pair hk hp c d) hz hzv hR rfl hx (aNZ hi) ho hK
  ·exact absurd hK.1 (by simp)
 ·exact absurd hK.1 (by simp)
theorem aUC {o:Op} {i:I} (h:aJI P o=some i)(hc:∀v,ρ (.const v)=v)(hR:aS U σ S w n)(he:∀x a,bF x=some a→VR (Own U σ S) w σ (e a) (ρ x))(hK:fB S i e true K):fR P U σ S w ρ o K:=by
 unfold aJI at h
 split at h
 ·simp only [zA] at h
  obtain⟨a,h1,rfl⟩:=h
  exact aO6 (.inl rfl) (he _ _ h1) hK
 ·simp only [zA] at h
  obtain⟨a,h1,rfl⟩:=h
  exact aO6 (.inr rfl) (he _ _ h1) hK
 ·split at h
  ·obtain rfl:=Option.some.inj h;exact hK.elim
  ·cases h
 ·simp only [zA] at h
  obtain⟨a,h1,rfl⟩:=h
  exact bGX (he _ _ h1) hK
 ·split at h
  ·rename_i h1 h2 h3
   obtain rfl:=Option.some.inj h
   exact bD1 (he _ _ h2) (he _ _ h3) hK
  ·rename_i h1 h2 h3
   split at h
   ·obtain rfl:=Option.some.inj h;exact aU7 h1 rfl (he _ _ h2) (he _ _ h3) hK
   ·obtain rfl:=Option.some.inj h;exact aU7 h1 rfl (he _ _ h2) (he _ _ h3) hK
   ·cases h
  ·rename_i h1 h2 h3
   split at h
   ·rename_i hs;obtain rfl:=Option.some.inj h;exact aGU (uV h1) hs rfl (he _ _ h2) (he _ _ h3) hK
   ·rename_i hs;obtain rfl:=Option.some.inj h;exact aGU (uV h1) hs rfl (he _ _ h2) (he _ _ h3) hK
   ·cases h
  ·rename_i h1 h2 h3
   split at h
   ·rename_i hs;obtain rfl:=Option.some.inj h;exact aGU (aB2 h1) hs rfl (he _ _ h2) (he _ _ h3) hK
   ·rename_i hs;obtain rfl:=Option.some.inj h;exact aGU (aB2 h1) hs rfl (he _ _ h2) (he _ _ h3) hK
   ·cases h
  ·rename_i h1 h2 h3
   split at h
   ·obtain rfl:=Option.some.inj h;exact aJB h1 rfl hc (he _ _ h2) hK
   ·obtain rfl:=Option.some.inj h;exact aJB h1 rfl hc (he _ _ h2) hK
   ·cases h
  ·cases h
 ·split at h
  ·rename_i h1 h2 h3
   obtain rfl:=Option.some.inj h
   exact aXR h1 h2 (he _ _ h3) hK
  ·cases h
 ·simp only [zA] at h
  obtain⟨a,h1,rfl⟩:=h
  exact aUB (he _ _ h1) hK
 ·split at h
  ·rename_i h1 h2
   split at h
   ·rename_i h3
    split at h
    ·rename_i h4
     obtain rfl:=Option.some.inj h
     exact aU8 h1 h3 h4 (he _ _ h2) hK
    ·cases h
   ·cases h
  ·cases h
 ·split at h
  ·rename_i h1 h2 h3
   split at h
   ·rename_i h4
    obtain rfl:=Option.some.inj h
    exact aO5 h1 h2 h4 hR (he _ _ h3) hK
   ·cases h
  ·cases h
 ·simp only [zA] at h
  obtain⟨a,h1,rfl⟩:=h
  exact aXS (he _ _ h1) hK
 ·split at h
  ·rename_i h1 h2 h3
   split at h
   ·rename_i h4 h5
    simp only [zA] at h
    obtain⟨z,h6,rfl⟩:=h
    exact aXV h1 h4 h5 h6 hR (he _ _ h2) (he _ _ h3) hK
   ·rename_i h4 h5
    split at h
    ·rename_i hp
     simp only [zA] at h
     obtain⟨z,h6,rfl⟩:=h
     exact aUA h1 h4 hp h5 h6 hR (he _ _ h2) (he _ _ h3) hK
    ·cases h
   ·cases h
  ·cases h
 ·split at h
  ·rename_i h1 h2 h3
   simp only [zA] at h
   obtain⟨z,h4,rfl⟩:=h
   exact aU9 h1 h4 hR (he _ _ h2) (he _ _ h3) hK
  ·rename_i h1 h2 h3
   simp only [zA] at h
   obtain⟨z,h4,rfl⟩:=h
   exact aXU h1 h4 (he _ _ h2) (he _ _ h3) hK
  ·cases h
 ·split at h
  ·rename_i h1 h2 h3
   split at h
   ·rename_i h4
    obtain rfl:=Option.some.inj h
    exact aXQ h1 h4 (he _ _ h2) (he _ _ h3) hK
   ·cases h
  ·cases h
 ·split at h
  ·rename_i h1 h2
   split at h
   ·rename_i h3
    split at h
    ·rename_i h4 h5
     split at h
     ·rename_i h6
      obtain rfl:=Option.some.inj h
      exact aXT h1 h3 h4 h5 h6 (he _ _ h2) hK
     ·cases h
    ·cases h
   ·cases h
  ·cases h
 ·split at h
  ·rename_i h1
   simp only [zA] at h
   obtain⟨z,h4,rfl⟩:=h
   exact aXW h1 h4 he hK
  ·cases h
 ·split at h
  ·rename_i h1 h2 h3 h4
   split at h
   ·rename_i h5
    obtain rfl:=Option.some.inj h
    exact aO7 h1 h5 hR (he _ _ h2) trivial (he _ _ h3) (he _ _ h4) hK
   ·rename_i h5
    simp only [zA] at h
    obtain⟨z,h6,rfl⟩:=h
    exact aO7 h1 h5 hR (he _ _ h2) (he _ _ h6) (he _ _ h3) (he _ _ h4) hK
   ·cases h
  ·cases h
 ·split at h
  ·rename_i h1 h2
   split at h
   ·rename_i h3
    obtain rfl:=Option.some.inj h
    exact aGV h1 h3 hR (he _ _ h2) trivial trivial hK
   ·rename_i h3
    simp only [zA] at h
    obtain⟨z,h4,rfl⟩:=h
    exact aGV h1 h3 hR (he _ _ h2) (he _ _ h4) trivial hK
   ·rename_i h3
    simp only [zA] at h
    obtain⟨z,h4,rfl⟩:=h
    exact aGV h1 h3 hR (he _ _ h2) trivial (he _ _ h4) hK
   ·rename_i h3
    split at h
    ·rename_i h4 h5
     obtain rfl:=Option.some.inj h
     exact aGV h1 h3 hR (he _ _ h2) (he _ _ h4) (he _ _ h5) hK
    ·cases h
   ·cases h
  ·cases h
 ·rename_i args argTypes
  split at h
  ·rename_i x t h1 h2
   split at h
   ·rename_i h3 h4
    obtain rfl:=Option.some.inj h
    obtain rfl:args= #[x]:=Array.toList_inj.1 h1
    obtain rfl:argTypes= #[t]:=Array.toList_inj.1 h2
    exact bD2 (ty:=0) h3 _ rfl (he _ _ h4) hK
   ·cases h
  ·cases h
 ·rename_i args ts
  split at h
  ·rename_i x y h1
   split at h
   ·rename_i h3 h4
    obtain rfl:=Option.some.inj h
    obtain rfl:args= #[x,y]:=Array.toList_inj.1 h1
    exact bD3 _ rfl (he _ _ h3) (he _ _ h4) hK
   ·cases h
  ·cases h
 ·rename_i args ts
  split at h
  ·rename_i x y h1
   split at h
   ·rename_i h3 h4
    obtain rfl:=Option.some.inj h
    obtain rfl:args= #[x,y]:=Array.toList_inj.1 h1
    exact bD4 _ rfl (he _ _ h3) (he _ _ h4) hK
   ·cases h
  ·cases h
 ·cases h
end
end Go.Sk
