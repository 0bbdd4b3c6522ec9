/- Caches. -/
import Derived.Test.YtmhapcbjjpadnaaGreatK1c
import Derived.Laws.IdiomStrings
import Derived.Laws.DeepStrings4
import Derived.Laws.Concat
import Derived.Laws.BytesArg
import Derived.Deep.AppendSrc
import Derived.Deep.Upon
import Derived.Laws.CopyRow
import Derived.Laws.MakeOwn
set_option linter.all false
open Array renaming getElem?_eq_getElem→zG,getElem?_push→zN,length_toList→zO,toArray_toList→zU,getElem?_toList→yJ,range→yL
open List renaming getElem?_eq_getElem→zA,getElem?_cons_zero→zC,getD_eq_getElem?_getD→zD,replicate→zE,length_cons→zH,mem_of_getElem?→zI,getElem?_take→zK,getElem?_append→zL,getElem?_drop→zP,flatten_cons→zQ,getElem?_cons_succ→zR,getElem?_set_self→zS,length_replicate→zT,getElem?_set_ne→zV,mem_cons_of_mem→zW,length_nil→zX,getElem_of_mem→zY,getElem?_append_right→zZ,getElem?_append_left→yA,mem_or_eq_of_mem_set→yC,length_take→yE,length_set→yG,getElem?_eq_none→yI,mem_of_mem_take→yM,append_assoc→yO,zipIdx_cons→yP,getElem_mem→yQ
open Nat renaming add_mul→zF,mul_le_mul_right→zM,one_mul→yD,not_lt_zero→yH,le_refl→yK,add_assoc→yN
open Option renaming map_eq_some_iff→zJ,getD_some→yF,map_some→yR
namespace Go.Sk
open Go Go.RowKit
variable [gL]
section
variable {P:Program} {U:Nat->Prop} {σ:Sg} {S:aD} {w:World} {n:Nat} {ρ:Operand->Value} {e:A->V} {K:V->Prop}
theorem tW(op:BinOp)(t:TypeId)(x y:Operand)(a b:ByteArray)(z:P.underlying t=some .string)(w':World):(eqGuard op t x y (.string a) (.string b)).run P w'=.ok () w':=by
 have j:P.eqGuardType P.depth t=false:=by
  cases f:P.depth with
  |zero=>simp [Program.depth] at f
  |succ d=>simp [Program.eqGuardType,z]
 cases op <;> simp [eqGuard,run_program,j]
theorem bEE {t:TypeId} {x:Operand} {a:A} (D:P.underlying t=some .string)(o:Op)(C:o=.call { callee:=.builtin .len,args:= #[x],argTypes:= #[t] })
 (z:VR (Own U σ S) w σ (e a) (ρ x)) (f:gQ S (.slen a) e true K):iM P U σ S w ρ o K:=by
 unfold gQ at f;simp only at f;split at f
 ·rename_i s B;rw [B] at z;generalize j:ρ x=F at z;cases z
  exact⟨_,_,f,.int _ _,λw' E h _=>by simp [execOp,h,C,resolve,invoke,builtin,Builtin.len_,j,run_underlying D,goInt]⟩
 ·exact absurd f.1 (by simp)
theorem bED {t:TypeId} {x i:Operand} {a b:A} (H:P.underlying t=some .string)(E:VR (Own U σ S) w σ (e a) (ρ x))(F:VR (Own U σ S) w σ (e b) (ρ i))(f:gQ S (.sidx a b) e true K):iM P U σ S w ρ (.index t x i) K:=by
 unfold gQ at f;simp only at f;split at f
 ·rename_i s k j G h2;rw [G] at E;rw [h2] at F;generalize C:ρ x=M at E;generalize D:ρ i=N at F;cases E
  cases F
  obtain⟨z,f⟩:=f;have z:=z trivial;have B:j.toNat<s.data.toList.length:=by have :s.data.toList.length=s.size:=rfl;omega
  have e1:s.data.toList.getD j.toNat 0=s[j.toNat]'(by have :s.data.toList.length=s.size:=rfl;omega):=by rw [zD,zA B];rfl
  rw [e1] at f;exact⟨_,_,f,.int _ _,λO J h _=>by simp [execOp,h,C,D,run_index_string O t s k j H,z]⟩
 ·exact absurd f.1 (by simp)
theorem aM3 {t:TypeId} {x:Operand} {lo hi:Option Operand} {a:A} {N J:Option A} (M:P.underlying t=some .string)(Q:VR (Own U σ S) w σ (e a) (ρ x))
 (j:match lo,N with |none,none=>True |some l,some l'=>VR (Own U σ S) w σ (e l') (ρ l)|_,_=>False)
 (f:match hi,J with |none,none=>True |some l,some l'=>VR (Own U σ S) w σ (e l') (ρ l)|_,_=>False)
 (B:gQ S (.ssl a N J) e true K):iM P U σ S w ρ (.slice t x lo hi none) K:=by
 unfold gQ at B;simp only at B;split at B
 ·rename_i s h1;rw [h1] at Q;generalize D:ρ x=va at Q;cases Q
  split at B
  ·rename_i k1 l k2 h e1 H;obtain⟨hb,B⟩:=B;obtain⟨T,W,Y⟩:=hb trivial
   have G:bnd ρ lo 0 l:=by
    cases lo with
    |none=>
     cases N with
     |none=>simp only [V.int.injEq] at e1;exact e1.2.symm
     |some _=>exact j.elim
    |some z=>
     cases N with
     |none=>exact j.elim
     |some z'=>
      simp only at j e1;rw [e1] at j;generalize O:ρ z=v at j;cases j
      exact⟨_,O⟩
   have E:bnd ρ hi (s.size:Int) h:=by
    cases hi with
    |none=>
     cases J with
     |none=>simp only [V.int.injEq] at H;exact H.2.symm
     |some _=>exact f.elim
    |some z=>
     cases J with
     |none=>exact f.elim
     |some z'=>
      simp only at f H;rw [H] at f;generalize O:ρ z=v at f;cases f
      exact⟨_,O⟩
   refine⟨_,.string (s.extract l.toNat h.toNat),B,.str _,λw' o' C _=>?_⟩;have F:0<=h:=by omega
   have el:((h.toNat:Nat):Int)=h:=Int.toNat_of_nonneg F;have full:s.extract 0 s.size=s:=by simp
   cases lo with
   |none=>
    have G:l=0:=G;subst G
    cases hi with
    |none=> have E:h=(s.size:Int):=E;subst E;simp [execOp,C,Instr.sliceAt,Instr.slice,Instr.sliceBounds,D,run_underlying M]
    |some z=> obtain⟨k,R⟩:=E;simp [execOp,C,Instr.sliceAt,Instr.slice,Instr.sliceBounds,Instr.sliceBound,dR,D,R,run_underlying M,F,Y]
   |some y=>
    obtain⟨k',Z⟩:=G
    cases hi with
    |none=> have E:h=(s.size:Int):=E;subst E;simp [execOp,C,Instr.sliceAt,Instr.slice,Instr.sliceBounds,Instr.sliceBound,dR,D,Z,run_underlying M,T,W]
    |some z=> obtain⟨k,R⟩:=E;simp [execOp,C,Instr.sliceAt,Instr.slice,Instr.sliceBounds,Instr.sliceBound,dR,D,Z,R,run_underlying M,T,F,Y,W,el]
  ·exact absurd B.1 (by simp)
 ·exact absurd B.1 (by simp)
theorem bEC {t u:TypeId} {x y:Operand} {a b:A} (F:P.underlying t=some .string)(B:VR (Own U σ S) w σ (e a) (ρ x))(C:VR (Own U σ S) w σ (e b) (ρ y))(f:gQ S (.scat a b) e true K):iM P U σ S w ρ (.binOp .add t x y u) K:=by
 unfold gQ at f;simp only at f;split at f
 ·rename_i s G D h2;rw [D] at B;rw [h2] at C;generalize j:ρ x=J at B;generalize z:ρ y=M at C;cases B
  cases C
  obtain⟨E,f⟩:=f;exact⟨_,_,f,.str _,λN H h _=>by simp only [execOp,h,j,z,Sem.run_bind,tW _ _ _ _ _ _ F,Result.andThen_ok,binOp_string_add,run_string_add_sum N s G (E trivial)];rfl⟩
 ·exact absurd f.1 (by simp)
theorem bAX {neg:Bool} {op:BinOp} {t u:TypeId} {x y:Operand} {a b:A} (E:P.underlying t=some .string)(j:op=if neg then .neq else .eql)(C:VR (Own U σ S) w σ (e a) (ρ x))(D:VR (Own U σ S) w σ (e b) (ρ y))(f:gQ S (.sqs neg a b) e true K):iM P U σ S w ρ (.binOp op t x y u) K:=by
 unfold gQ at f;simp only at f;split at f
 ·rename_i s F G h2;rw [G] at C;rw [h2] at D;generalize z:ρ x=J at C;generalize B:ρ y=M at D;cases C
  cases D
  cases neg with
  |true=>subst j;exact⟨_,.bool (!uW s F),f,.bool _,λw' H h _=>by simp [execOp,h,z,B,tW _ _ _ _ _ _ E,binOp_string_neq,aDV]⟩
  |false=>subst j;exact⟨_,.bool (uW s F),f,.bool _,λw' H h _=>by simp [execOp,h,z,B,tW _ _ _ _ _ _ E,binOp_string_eql,aDV]⟩
 ·exact absurd f.1 (by simp)
theorem aJ5:∀ {f:List (List V)} {l:List UInt8},iO f=some l->∃j:List Int,f=j.map (λn=> [V.int .u8 n])/\l=j.map λn=>UInt8.ofNat n.toNat
 | [],l,h=>⟨[],rfl,(zsi h).symm⟩
 |x::r,l,h=>by
  unfold iO at h;split at h
  ·rename_i e;cases e
  ·rename_i n B e;obtain⟨rfl,rfl⟩:=List.cons.inj e;split at h
   ·rename_i l' z;obtain rfl:=zsi h;obtain⟨j,rfl,rfl⟩:=aJ5 z;exact⟨n::j,rfl,rfl⟩
   ·cases h
  ·cases h
theorem kX:∀l:List UInt8,iO (jT l)=some l
 | []=>rfl
 |b::r=>by
  show(match iO (jT r) with |some l=>some (UInt8.ofNat ((b.toNat:Int)).toNat::l)|none=>none)=_
  rw [kX r,Int.toNat_natCast,UInt8.ofNat_toNat]
theorem bKU {s d el:TypeId} {x:Operand} {a:A} (hs:P.underlying s=some (.slice el))(hd:P.underlying d=some .string)(ak:P.underlying el=some (.int .u8))(hz:bG P el=some 1)(hR:aV U σ S w n)
 (W:VR (Own U σ S) w σ (e a) (ρ x)) (B:gQ S (.b2s a) e true K):iM P U σ S w ρ (.convert s d x) K:=by
 replace W:=oQ W
 have H:∀(R:Option Addr) (cap:Nat) (E:List (List V)) (l:List UInt8),iO E=some l->ρ x=.slice R E.length cap->(E≠ []->∃b o,R=some ⟨b,o,none⟩/\b<w.heap.size/\∀(i:Nat) (v:V),E[i]? =some [v]->∃u,w.cell? ⟨b,o+i,none⟩=some u/\VR (Own U σ S) w (λ_=>none) v u)->K (.str ⟨l.toArray⟩)->iM P U σ S w ρ (.convert s d x) K:=by
  intro R cap E l hb D hc B;obtain⟨G,rfl,rfl⟩:=aJ5 hb;refine⟨_,.string ⟨(G.map λn=>UInt8.ofNat n.toNat).toArray⟩,B,.str _,λw' o' h al=>?_⟩;rw [List.length_map] at D
  have ap:(convert s d (.slice R G.length cap)).run P w'=.ok (.string ⟨(G.map λn=>UInt8.ofNat n.toNat).toArray⟩) w':=by
   rw [run_convert_bytes_string w' s d el R G.length cap hs ak hd]
   by_cases h0:G=[]
   ·subst h0
    cases R with
    |none=>rfl
    |some a0=>exact(run_bytesToString (P:=P) w' a0 0 cap [] rfl).trans rfl
   ·obtain⟨b,o,rfl,ag,ab⟩:=hc (by simpa using h0)
    have hl:=run_loadCells (P:=P) (w:=w') b o (λj=>Value.int .u8 (G.getD j 0)) G.length (λj hj=>by
     rw [al.cell ag];obtain⟨u,hu,ao⟩:=ab j (.int .u8 G[j]) (by simp [hj]);cases ao
     rw [hu];simp [zD,hj])
    have he:((List.range G.length).map λj=>Value.int .u8 (G.getD j 0))=G.map (Value.int .u8):=by
     apply List.ext_getElem
     ·simp
     ·intro i h1 h2;simp at h1;simp [zD,h1]
    rw [he] at hl;rw [run_bytesToString w' ⟨b,o,none⟩ G.length cap G hl,foldl_push_bytes];have aj:ByteArray.empty.data= #[]:=rfl;rw [aj];simp
  simp only [execOp,h,D,Sem.run_bind,ap,Result.andThen_ok];rfl
 unfold gQ at B;simp only at B;split at B
 ·rename_i k f len h1;rw [h1] at W;generalize F:ρ x=va at W;split at B
  ·rename_i xs ho;split at B
   ·rename_i l hb;obtain⟨J,B⟩:=B;have J:=J trivial;have z:((xs.drop f).take len).length=len:=by simp;omega
    have M:=hR.obj k _ ho
    cases W with
    | @sl _ _ _ _ Z af cap R O ac aa=>
      rw [O] at M;obtain⟨hl,rfl,Y,ae,ty,hh,am,C⟩:=M;refine H R (cap-f) _ l hb (by rw [z];exact F) (λT=>?_) B;have N:=List.length_pos_iff.2 T;rw [z] at N;refine⟨Z,f*1,aa (by omega),(Array.getElem?_eq_some_iff.1 hh).1,λi v D=>?_⟩;rw [zK] at D;split at D
      ·rw [zP] at D;obtain⟨u,q1,-,q3⟩:=C (f+i) _ 0 v D rfl;exact⟨u,by simp only [World.cell?,hh];rw [show f*1+i=(f+i)*1+0 by omega];simpa using q1,q3⟩
      ·cases D
    |sl0 O=> refine H _ 0 _ l hb (by rw [z];exact F) (λT=>?_) B;simp at T
   ·exact absurd B.1 (by simp)
  ·rename_i l ho;obtain⟨J,B⟩:=B;have J:=J trivial;have z:(jT ((l.drop f).take len)).length=len:=by unfold jT;simp;omega
   have M:=hR.obj k _ ho
   cases W with
   | @sl _ _ _ _ Z af cap R O ac aa=>
     rw [O] at M;obtain⟨b',aq,hl,Y,ae,ty,hh,am,C⟩:=M;simp only [zse,Prod.mk.injEq] at hl;obtain⟨rfl,rfl,rfl⟩:=hl;refine H R (cap-f) _ _ (kX _) (by rw [z];exact F) (λT=>?_) B;have N:=List.length_pos_iff.2 T;rw [z] at N;refine⟨Z,f*1,aa (by omega),(Array.getElem?_eq_some_iff.1 hh).1,λi v D=>?_⟩;unfold jT at D;rw [List.getElem?_map,zJ] at D;obtain⟨x,Q,D⟩:=D;simp only [List.cons.injEq,and_true] at D;subst D;rw [zK] at Q
     split at Q
     ·rw [zP] at Q;exact⟨.int .u8 (x.toNat:Int),by simp only [World.cell?,hh];rw [show f*1+i=f+i by omega];exact C (f+i) x Q,.int _ _⟩
     ·cases Q
   |sl0 O=> refine H _ 0 _ _ (kX _) (by rw [z];exact F) (λT=>?_) B;simp [jT] at T
  ·exact absurd B.1 (by simp)
 ·rename_i t xs h1;rw [h1] at W;generalize F:ρ x=va at W;split at B
  ·rename_i l hb
   cases W with
   |lst b o cv ha au Y ht ah ar ai=>
    refine H _ _ xs l hb F (λT=>?_) B;obtain⟨e1,-,e3⟩:=ha T;refine⟨b,o,e1,e3,λi v D=>?_⟩;have hi:=(List.getElem?_eq_some_iff.1 D).1;refine⟨cv i 0,?_,(ai i _ 0 v D rfl).mono (cG.refl _ _) (λb _ h=>h) λ_ _=>rfl⟩;rw [<-ah i 0 hi (by omega)]
    congr 2
    omega
  ·exact absurd B.1 (by simp)
 ·exact absurd B.1 (by simp)
theorem aWG {o:Op} {i:I} (h:bEK P o=some i)(H:aV U σ S w n)(f:∀x a,bK x=some a->VR (Own U σ S) w σ (e a) (ρ x))(B:gQ S i e true K):iM P U σ S w ρ o K:=by
 unfold bEK at h;split at h
 ·split at h
  ·rename_i j h2 D;split at h
   ·obtain rfl:=zsi h;exact bEC j (f _ _ h2) (f _ _ D) B
   ·obtain rfl:=zsi h;exact bAX j rfl (f _ _ h2) (f _ _ D) B
   ·obtain rfl:=zsi h;exact bAX j rfl (f _ _ h2) (f _ _ D) B
   ·cases h
  ·cases h
 ·split at h
  ·rename_i j h2 D;split at h
   ·rename_i h4 h5;obtain rfl:=zsi h;exact bKU j h2 h4 h5 H (f _ _ D) B
   ·cases h
  ·cases h
 ·split at h
  ·rename_i j h2 D;obtain rfl:=zsi h;exact bED j (f _ _ h2) (f _ _ D) B
  ·cases h
 ·split at h
  ·rename_i j h2;split at h
   ·obtain rfl:=zsi h;exact aM3 j (f _ _ h2) trivial trivial B
   ·simp only [zJ] at h;obtain⟨z,h4,rfl⟩:=h;exact aM3 j (f _ _ h2) (f _ _ h4) trivial B
   ·simp only [zJ] at h;obtain⟨z,h4,rfl⟩:=h;exact aM3 j (f _ _ h2) trivial (f _ _ h4) B
   ·split at h
    ·rename_i h4 h5;obtain rfl:=zsi h;exact aM3 j (f _ _ h2) (f _ _ h4) (f _ _ h5) B
    ·cases h
  ·cases h
 ·rename_i C E;split at h
  ·rename_i x t F G;split at h
   ·rename_i j h2;obtain rfl:=zsi h;have F:C= #[x]:=by rw [<-zU (xs:=C),F]
    have G:E= #[t]:=by rw [<-zU (xs:=E),G]
    subst F G;exact bEE j _ rfl (f _ _ h2) B
   ·cases h
  ·cases h
 ·cases h
theorem aWH {o:Op} {i:I} (h:aI7 P o=some i)(C:∀v,ρ (.const v)=v)(j:aV U σ S w n)(z:∀x a,bK x=some a->VR (Own U σ S) w σ (e a) (ρ x))(f:gQ S i e true K):iM P U σ S w ρ o K:=by
 unfold aI7 at h;split at h
 ·rename_i B;obtain rfl:=zsi h;exact bAW B C j z f
 ·exact aWG h j z f
end
end Go.Sk
namespace Go.Sk
open Go Go.RowKit
variable [gL]
def pY:V->Bool
 | .int _ _=>true | .bool _=>true | .str _=>true | .nil=>true | .ptr _ _ _=>true | .rp _ _ _=>true | .sl _ _ _=>true | .slx _ _ _=>true | .slk _ _ _ _=>true | .lst _ _ _=>true | .fn _ _=>true | .mp _=>true
 | .val v=>v.oneCell'
 |_=>false
def cN:V->Bool
 | .int _ _=>true | .bool _=>true | .str _=>true | .nil=>true | .rp _ _ _=>true | .lst _ _ _=>true
 | .val v=>v.oneCell'
 |_=>false
def V.cells?:V->Option (List V)
 | .agg cs=>some cs
 |v=>if pY v then some [v] else none
theorem aHU {O:Nat->Prop} {w:World} {σ:Sg} {x:V} {v:Value} (h:VR O w σ x v)(f:pY x=true):v.oneCell'=true:=by
 cases h <;> first |rfl | (simp [pY] at f;done)| (simpa [pY] using f)
theorem aY {O:Nat->Prop} {w:World} {σ:Sg} {x:V} {v:Value} (h:VR O w σ x v)(f:cN x=true):VR O w (λ_=>none) x v:=by
 cases h <;> first
  |exact .int _ _ |exact .bool _ |exact .str _ |exact .nil |exact .val _
  | (exact .rp _ _ _ ‹_› ‹_› ‹_› ‹_› ‹_› ‹_›)
  | (exact .lst _ _ _ ‹_› ‹_› ‹_› ‹_› ‹_› ‹_› ‹_›)
  | (simp [cN] at f)
theorem aQU {x:V} (h:cN x=true):pY x=true:=by cases x <;> simp_all [cN,pY]
theorem tM {O:Nat->Prop} {w:World} {σ:Sg} {x:V} {v:Value} {cs:List V} (h:VR O w σ x v)(j:x.cells?=some cs)(M:cs.all pY=true):
 v.cells.size=cs.length/\∀(i:Nat) (y:V),cs[i]? =some y->∃u,v.cells[i]? =some u/\u.oneCell'=true/\VR O w σ y u:=by
 have E:∀y∈cs,pY y=true:=List.all_eq_true.1 M
 by_cases F:∃B,x=.agg B
 ·obtain⟨B,rfl⟩:=F;simp only [V.cells?,zse] at j;subst j
  cases h with
  |agg G h=> refine⟨G,λi y z=>?_⟩;obtain⟨N,-⟩:=List.getElem?_eq_some_iff.1 z;have H:=zG (G▸N);have J:=h i y _ z H;exact⟨_,H,aHU J (E y (zI z)),J⟩
 ·have D:pY x=true/\cs=[x]:=by
   unfold V.cells? at j;split at j
   ·exact absurd ⟨_,rfl⟩ F
   ·split at j
    ·rename_i h2;exact⟨h2,(zsi j).symm⟩
    ·cases j
  obtain⟨Q,rfl⟩:=D;have C:=aHU h Q;have f:v.cells= #[v]:=by cases v <;> first |rfl | (simp [Value.oneCell'] at C)
  rw [f];refine⟨rfl,λi y z=>?_⟩
  cases i with
  |zero=>simp only [zC,zse] at z;subst z;exact⟨v,rfl,C,h⟩
  |succ i=>simp at z
section
variable {U:Nat->Prop} {σ:Sg} {S:aD} {w:World} {n:Nat}
theorem lM.grow {σ':Sg} {H:aD} {w':World} {W:Nat} (g:bP σ S w n σ' H w' W) {j:Option (Option Nat×Nat×Nat)} {o:Obj}
 (h:lM (Own U σ S) w σ j o) (G:∀b es cap,j=some (some b,es,cap)->w'.heap[b]? =w.heap[b]?):lM (Own U σ' H) w' σ' j o:=by
 have g0:∀ {x v},VR (Own U σ S) w (λ_=>none) x v->VR (Own U σ' H) w' (λ_=>none) x v:=λh=>h.mono (g.keepU U) (g.ownU U) λ_ _=>rfl
 cases o with
 |row es xs=>
  obtain⟨Q,h⟩:=h;refine⟨Q,?_⟩;rcases j with _ | ⟨_ |b,O,cap⟩
  ·exact h
  ·exact h
  ·obtain⟨rfl,J,f,F,z,B,C⟩:=h;refine⟨rfl,J,f,F,(G b _ _ rfl).trans z,B,λi x c y T M=>?_⟩;obtain⟨v,D,h2,E⟩:=C i x c y T M;exact⟨v,D,h2,g0 E⟩
 |box Y=> obtain⟨b,rfl,f,F,z,B,C⟩:=h;refine⟨b,rfl,f,F,(G b _ _ rfl).trans z,B,λc y M=>?_⟩;obtain⟨v,D,h2,E⟩:=C c y M;exact⟨v,D,h2,E.grow g⟩
 |mp xs=> obtain⟨b,rfl,es,N,z,B,C⟩:=h;refine⟨b,rfl,es,N,(G b _ _ rfl).trans z,B,λi p R=>?_⟩;obtain⟨en,D,h2,E⟩:=C i p R;exact⟨en,D,h2,g0 E⟩
 |bb l=> obtain⟨b,cap,rfl,J,f,F,z,B,C⟩:=h;exact⟨b,cap,rfl,J,f,F,(G b _ _ rfl).trans z,B,C⟩
theorem aV.step(hR:aV U σ S w n) {σ':Sg} {S':aD} {w':World} {n':Nat} (g:bP σ S w n σ' S' w' n')(fresh:∀k,n'<=k->S'.get k=none/\σ' k=none)
 (hinj:∀k k' o o' b es cap es' cap',S'.get k=some o->S'.get k'=some o'->σ' k=some (some b,es,cap)->σ' k'=some (some b,es',cap')->k=k')
 (hobj:∀k o,S'.get k=some o->(S.get k=some o/\∀b es cap,σ k=some (some b,es,cap)->w'.heap[b]? =w.heap[b]?)\/lM (Own U σ' S') w' σ' (σ' k) o):aV U σ' S' w' n' where
 fresh:=fresh
 disj:=λb hb hu=>hR.disj b (g.own b (hR.ulim b hu) hb) hu
 ulim:=λb hu=>Nat.lt_of_lt_of_le (hR.ulim b hu) g.keep.size
 gl:=hR.gl.mono (g.keepU U) (g.ownU U)
 inj:=hinj
 obj:=λk o ho=>by
  rcases hobj k o ho with ⟨h1,h2⟩|h
  ·rw [g.sg k (hR.loc h1)];exact(hR.obj k o h1).grow g h2
  ·exact h
def Sg.put(σ:Sg)(n:Nat)(loc:Option Nat×Nat×Nat):Sg:=λk=>if k=n then some loc else σ k
theorem Sg.put_same(σ:Sg)(n:Nat)(f:Option Nat×Nat×Nat):σ.put n f n=some f:=by simp [Sg.put]
theorem Sg.put_other(σ:Sg) {n k:Nat} (f:Option Nat×Nat×Nat)(h:k≠n):σ.put n f k=σ k:=by simp [Sg.put,h]
structure nR(w w':World)(arr:Array Value)(ty:TypeId×Bool):Prop where
 os:w'.os=w.os
 tape:w'.tape=w.tape
 output:w'.output=w.output
 heap:w'.heap=w.heap.push (.cells arr ty.1 (mkF ty.2 arr.size))
theorem nR.alloc(w:World)(arr:Array Value)(ty:TypeId):nR w (w.alloc (.cells arr ty)) arr (ty,false):=⟨rfl,rfl,rfl,rfl⟩
theorem nR.drewAlloc(w:World)(arr:Array Value)(ty:TypeId):nR w (w.drew.alloc (.cells arr ty)) arr (ty,false):=⟨rfl,rfl,rfl,rfl⟩
theorem nR.new {w w':World} {arr:Array Value} {ty:TypeId×Bool} (h:nR w w' arr ty):w'.heap[w.heap.size]? =some (.cells arr ty.1 (mkF ty.2 arr.size)):=by rw [h.heap];simp
theorem nR.old {w w':World} {arr:Array Value} {ty:TypeId×Bool} (h:nR w w' arr ty) {b:Nat} (f:b<w.heap.size):w'.heap[b]? =w.heap[b]? :=by rw [h.heap,zN,if_neg (by omega)]
theorem nR.keep {w w':World} {arr:Array Value} {ty:TypeId×Bool} (h:nR w w' arr ty)(O:Nat->Prop):cG O w w':= ⟨h.os,h.tape,h.output,by rw [h.heap];simp,λb f _=>h.old f⟩
theorem aV.fresh_obj(F:aV U σ S w n) {m:Nat} (G:S.get m=none/\σ m=none) {w':World} (J:∀O,cG O w w')(T:∀b,b<w.heap.size->w'.heap[b]? =w.heap[b]?)(D:aD)(R:∀k o,D.get k=some o->S.get k=some o)(es cap:Nat)(o:Obj)
 (ho:bP σ S w n (σ.put m (some w.heap.size,es,cap)) (D.set m o) w' (max n (m+1))->lM (Own U (σ.put m (some w.heap.size,es,cap)) (D.set m o)) w' (σ.put m (some w.heap.size,es,cap)) (some (some w.heap.size,es,cap)) o):
 bP σ S w n (σ.put m (some w.heap.size,es,cap)) (D.set m o) w' (max n (m+1))/\aV U (σ.put m (some w.heap.size,es,cap)) (D.set m o) w' (max n (m+1)):=by
 have f:∀k p,(D.set m o).get k=some p->(k=m/\p=o)\/(k≠m/\S.get k=some p):=by
  intro k p j;rw [aD.get_set] at j;split at j
  ·rename_i h;exact .inl ⟨h,(zsi j).symm⟩
  ·rename_i h;exact .inr ⟨h,R k p j⟩
 have g:bP σ S w n (σ.put m (some w.heap.size,es,cap)) (D.set m o) w' (max n (m+1)):=by
  refine⟨J _,λb hb hO=>?_,λk j=>Sg.put_other _ _ (λe=>j (e▸G.2)),by omega⟩;obtain⟨k,p,Y,M,j,z⟩:=hO;rcases f k p j with ⟨rfl,-⟩| ⟨C,H⟩
  ·rw [Sg.put_same] at z;simp only [zse,Prod.mk.injEq] at z;omega
  ·rw [Sg.put_other _ _ C] at z;exact⟨k,p,Y,M,H,z⟩
 refine⟨g,F.step g (λk j=>?_) (λk Z p p' b e1 W e2 c2 j H z B=>?_) λk p j=>?_⟩
 ·rw [aD.get_set,if_neg (by omega),Sg.put_other _ _ (by omega)];refine⟨?_,(F.fresh k (by omega)).2⟩
  cases h:D.get k with
  |none=>rfl
  |some p=>have :=R k p h;rw [(F.fresh k (by omega)).1] at this;cases this
 ·rcases f k p j with ⟨rfl,-⟩| ⟨C,N⟩<;> rcases f Z p' H with ⟨rfl,-⟩| ⟨E,Q⟩
  ·rfl
  ·rw [Sg.put_same] at z;rw [Sg.put_other _ _ E] at B;have :=F.size ⟨Z,p',e2,c2,Q,B⟩;simp only [zse,Prod.mk.injEq] at z;omega
  ·rw [Sg.put_same] at B;rw [Sg.put_other _ _ C] at z;have :=F.size ⟨k,p,e1,W,N,z⟩;simp only [zse,Prod.mk.injEq] at B;omega
  ·rw [Sg.put_other _ _ C] at z;rw [Sg.put_other _ _ E] at B;exact F.inj k Z p p' b e1 W e2 c2 N Q z B
 ·rcases f k p j with ⟨rfl,rfl⟩| ⟨C,N⟩
  ·right;rw [Sg.put_same];exact ho g
  ·left;exact⟨N,λb e1 W z=>T b (F.size ⟨k,p,e1,W,N,z⟩)⟩
theorem aV.new_box(C:aV U σ S w n) {m:Nat} (f:S.get m=none/\σ m=none) {w':World} {arr:Array Value} {ty:TypeId} (hm:nR w w' arr (ty,false)) {cs:List V} (j:arr.size=cs.length)
 (E:∀(i:Nat) (y:V),cs[i]? =some y->∃u,arr[i]? =some u/\u.oneCell'=true/\VR (Own U σ S) w σ y u):
 bP σ S w n (σ.put m (some w.heap.size,cs.length,1)) (S.set m (.box cs)) w' (max n (m+1))/\aV U (σ.put m (some w.heap.size,cs.length,1)) (S.set m (.box cs)) w' (max n (m+1)):=
 C.fresh_obj f hm.keep (λ_ D=>hm.old D) S (λ_ _ h=>h) _ _ _ λg=>⟨_,rfl,arr,ty,hm.new,j,λc y F=>by obtain⟨u,z,h2,B⟩:=E c y F;exact⟨u,z,h2,B.grow g⟩⟩
theorem aV.new_bytes(G:aV U σ S w n) {m:Nat} (z:S.get m=none/\σ m=none) {w':World} {arr:Array Value} {ty:TypeId} {l:List UInt8} {cap:Nat} (D:w'.os=w.os)(B:w'.tape=w.tape)(C:w'.output=w.output)
 (f:w'.heap=w.heap.push (.cells arr ty (arr.size,arr.size+1))) (H:l.length<=cap/\cap<=9223372036854775807) (E:cap<=arr.size) (hv:∀(i:Nat) (x:UInt8),l[i]? =some x->arr[i]? =some (.int .u8 (x.toNat:Int))):
 bP σ S w n (σ.put m (some w.heap.size,1,cap)) (S.set m (.bb l)) w' (max n (m+1))/\aV U (σ.put m (some w.heap.size,1,cap)) (S.set m (.bb l)) w' (max n (m+1)):=by
 have j:∀b,b<w.heap.size->w'.heap[b]? =w.heap[b]? :=λb F=>by rw [f,zN,if_neg (by omega)]
 exact G.fresh_obj z (λO=>⟨D,B,C,by rw [f];simp,λb F _=>j b F⟩) j S (λ_ _ h=>h) 1 cap (.bb l) λg=>⟨_,_,rfl,H,arr,ty,by rw [f];simp,E,hv⟩
theorem aV.new_map(B:Nat)(D:aV U σ S w n) {m:Nat} (j:S.get m=none/\σ m=none):
 bP σ S w n (σ.put m (some w.heap.size,0,0)) (S.set m (.mp (B,[]))) (w.alloc (.map #[] 0)) (max n (m+1))/\aV U (σ.put m (some w.heap.size,0,0)) (S.set m (.mp (B,[]))) (w.alloc (.map #[] 0)) (max n (m+1)):=by
 have z:(w.alloc (.map #[] 0)).heap=w.heap.push (.map #[] 0):=rfl;have f:∀b,b<w.heap.size->(w.alloc (.map #[] 0)).heap[b]? =w.heap[b]? :=λb C=>by rw [z,zN,if_neg (by omega)]
 exact D.fresh_obj j (w':=w.alloc (.map #[] 0)) (λO=>⟨rfl,rfl,rfl,by rw [z];simp,λb C _=>f b C⟩) f S (λ_ _ h=>h) 0 0 (.mp (B,[])) λg=>⟨_,rfl,#[],0,by rw [z];simp,rfl,λi p E=>by simp at E⟩
theorem aV.new_row(G:aV U σ S w n) {m:Nat} (f:S.get m=none/\σ m=none) {w':World} {arr:Array Value} {ty:TypeId×Bool} (hm:nR w w' arr ty)(z:aD)(B:∀k o,z.get k=some o->S.get k=some o) {es cap:Nat} {xs:List (List V)} (C:∀x∈xs,x.length=es)(j:xs.length<=cap/\cap<=9223372036854775807)(D:cap*es<=arr.size)
 (J:∀(i:Nat) (x:List V) (c:Nat) (y:V),xs[i]? =some x->x[c]? =some y->∃u,arr[i*es+c]? =some u/\u.oneCell'=true/\VR (Own U σ S) w (λ_=>none) y u):
 bP σ S w n (σ.put m (some w.heap.size,es,cap)) (z.set m (.row es xs)) w' (max n (m+1))/\aV U (σ.put m (some w.heap.size,es,cap)) (z.set m (.row es xs)) w' (max n (m+1)):=
 G.fresh_obj f hm.keep (λ_ H=>hm.old H) z B _ _ _ λg=>⟨C,rfl,j,arr,ty,hm.new,D,λi x c y M N=>by obtain⟨u,E,h2,F⟩:=J i x c y M N;exact⟨u,E,h2,F.mono (g.keepU U) (g.ownU U) λ_ _=>rfl⟩⟩
theorem aV.new_nil(M:aV U σ S w n) {m:Nat} (D:S.get m=none/\σ m=none)(es:Nat)(F:aD)(H:∀k o,F.get k=some o->S.get k=some o):
 bP σ S w n (σ.put m (none,es,0)) (F.set m (.row es [])) w (max n (m+1))/\aV U (σ.put m (none,es,0)) (F.set m (.row es [])) w (max n (m+1)):=by
 have f:∀k p,(F.set m (.row es [])).get k=some p->(k=m/\p=.row es [])\/(k≠m/\S.get k=some p):=by
  intro k p j;rw [aD.get_set] at j;split at j
  ·rename_i h;exact .inl ⟨h,(zsi j).symm⟩
  ·rename_i h;exact .inr ⟨h,H k p j⟩
 have g:bP σ S w n (σ.put m (none,es,0)) (F.set m (.row es [])) w (max n (m+1)):=by
  refine⟨cG.refl _ _,λb hb hO=>?_,λk j=>Sg.put_other _ _ (λe=>j (e▸D.2)),by omega⟩;obtain⟨k,p,N,G,j,B⟩:=hO;rcases f k p j with ⟨rfl,-⟩| ⟨z,E⟩
  ·rw [Sg.put_same] at B;simp at B
  ·rw [Sg.put_other _ _ z] at B;exact⟨k,p,N,G,E,B⟩
 refine⟨g,M.step g (λk j=>?_) (λk R p T b e1 W Z Y j E B C=>?_) λk p j=>?_⟩
 ·rw [aD.get_set,if_neg (by omega),Sg.put_other _ _ (by omega)];refine⟨?_,(M.fresh k (by omega)).2⟩
  cases h:F.get k with
  |none=>rfl
  |some p=>have :=H k p h;rw [(M.fresh k (by omega)).1] at this;cases this
 ·rcases f k p j with ⟨rfl,-⟩| ⟨z,O⟩<;> rcases f R T E with ⟨rfl,-⟩| ⟨J,Q⟩
  ·rfl
  ·rw [Sg.put_same] at B;simp at B
  ·rw [Sg.put_same] at C;simp at C
  ·rw [Sg.put_other _ _ z] at B;rw [Sg.put_other _ _ J] at C;exact M.inj k R p T b e1 W Z Y O Q B C
 ·rcases f k p j with ⟨rfl,rfl⟩| ⟨z,O⟩
  ·right;rw [Sg.put_same];exact⟨by simp,rfl,rfl,rfl⟩
  ·left;exact⟨O,λ_ _ _ _=>rfl⟩
theorem aV.write(H:aV U σ S w n) {k:Nat} {o0 o:Obj} (G:S.get k=some o0) {b es cap:Nat} (W:σ k=some (some b,es,cap)) {w':World}
 (R:w'.os=w.os) (F:w'.tape=w.tape) (J:w'.output=w.output) (Y:w'.heap.size=w.heap.size) (B:∀j,j≠b->w'.heap[j]? =w.heap[j]?)
 (ho:bP σ S w n σ (S.set k o) w' n->lM (Own U σ (S.set k o)) w' σ (some (some b,es,cap)) o):
 bP σ S w n σ (S.set k o) w' n/\aV U σ (S.set k o) w' n:=by
 have M:∀c,fD σ (S.set k o) c↔fD σ S c:=by
  intro c;constructor
  ·rintro ⟨j,p,e1,D,z,C⟩;rw [aD.get_set] at z;split at z
   ·rename_i h;subst h;exact⟨j,o0,e1,D,G,C⟩
   ·exact⟨j,p,e1,D,z,C⟩
  ·rintro ⟨j,p,e1,D,z,C⟩
   by_cases h:j=k
   ·subst h;exact⟨j,o,e1,D,by simp [aD.get_set],C⟩
   ·exact⟨j,p,e1,D,by simp [aD.get_set,h,z],C⟩
 have g:bP σ S w n σ (S.set k o) w' n:= ⟨⟨R,F,J,by omega,λc _ hc=>B c λh=>hc (h▸⟨k,o0,es,cap,G,W⟩)⟩,λc _ h=>(M c).1 h,λ_ _=>rfl,yK _⟩;refine⟨g,H.step g (λj z=>?_) (λj Z p p' c e1 D e2 c2 h1 O E N=>?_) λj p z=>?_⟩
 ·have Q:j≠k:=by rintro rfl;rw [(H.fresh j z).1] at G;cases G
  rw [aD.get_set,if_neg Q];exact H.fresh j z
 ·have f:∀j p,(S.set k o).get j=some p->∃q,S.get j=some q:=by
   intro j p z;rw [aD.get_set] at z;split at z
   ·rename_i h;subst h;exact⟨o0,G⟩
   ·exact⟨p,z⟩
  obtain⟨q,hq⟩:=f j p h1;obtain⟨q',T⟩:=f Z p' O;exact H.inj j Z q q' c e1 D e2 c2 hq T E N
 ·rw [aD.get_set] at z;split at z
  ·rename_i h;subst h;obtain rfl:=zsi z;right;rw [W];exact ho g
  ·rename_i h;left;refine⟨z,λc e1 D E=>B c λaa=>h ?_⟩;subst aa;exact H.inj j k p o0 c e1 D es cap z G E W
end
end Go.Sk
namespace Go.Sk
open Go Go.RowKit
variable [gL]
def oU(O:Nat->Prop)(w:World)(σ:Sg)(cs:List V)(arr:Array Value):Prop:= ∀(j:Nat) (y:V),cs[j]? =some y->∃u,arr[j]? =some u/\u.oneCell'=true/\VR O w σ y u
theorem oU.agg {O:Nat->Prop} {w:World} {σ:Sg} {cs:List V} {arr:Array Value} (h:oU O w σ cs arr)(B:arr.size=cs.length):VR O w σ (.agg cs) (.agg arr):= .agg B λi y v C f=>by obtain⟨u,j,-,z⟩:=h i y C;rw [j] at f;obtain rfl:=zsi f;exact z
def aE6(z:List V):List (Nat×Nat×V)->Option (List V)
 | []=>some z
 | (off,sz,x)::r=>match x.cells? with
   |some cs=>if cs.length=sz/\off+sz<=z.length/\cs.all pY=true then aE6 (z.take off++cs++z.drop (off+sz)) r else none
   |none=>none
theorem aIG(vs:List Value):∀(off k:Nat) (f:Array Value),((vs.zipIdx k).foldl (λ(cs:Array Value) (p:Value×Nat)=>cs.setIfInBounds (off+p.2) p.1) f).size=f.size:=by
 induction vs with
 |nil=>intro off k f;rfl
 |cons v r j=>intro off k f;simp only [yP,List.foldl_cons,j,Array.size_setIfInBounds]
theorem aIT(vs:List Value):∀(off k:Nat) (f:Array Value),off+k+vs.length<=f.size->∀j,((vs.zipIdx k).foldl (λ(cs:Array Value) (p:Value×Nat)=>cs.setIfInBounds (off+p.2) p.1) f)[j]? =
 if off+k<=j/\j<off+k+vs.length then vs[j- (off+k)]? else f[j]? :=by
 induction vs with
 |nil=>intro off k f _ j;simp;omega
 |cons v r C=>
  intro off k f z j;simp only [zH] at z;simp only [yP,List.foldl_cons];rw [C off (k+1) _ (by simp;omega) j];simp only [zH]
  by_cases B:j=off+k
  ·subst B;rw [if_neg (by omega),if_pos (by omega),Array.getElem?_setIfInBounds_self_of_lt (by omega)];simp
  ·by_cases h2:off+k<=j/\j<off+k+(r.length+1)
   ·rw [if_pos (by omega),if_pos h2,show j- (off+k)=(j- (off+(k+1)))+1 by omega,zR]
   ·rw [if_neg (by omega),if_neg h2,Array.getElem?_setIfInBounds_ne (by omega)]
theorem aVP(z:Array Value)(off:Nat)(f:Array Value)(B:off+z.size<=f.size):
 (z.zipIdx.foldl (λcs (c,j)=>cs.setIfInBounds (off+j) c) f).size=f.size/\
 ∀j,(z.zipIdx.foldl (λcs (c,j)=>cs.setIfInBounds (off+j) c) f)[j]? =if off<=j/\j<off+z.size then z[j-off]? else f[j]? :=by
 rw [<-Array.foldl_toList,Array.toList_zipIdx];refine⟨aIG z.toList off 0 f,λj=>?_⟩;have :=aIT z.toList off 0 f (by simpa using B) j;simpa using this
theorem aL9 {O:Nat->Prop} {w:World} {σ:Sg} (C:Nat->Option (Nat×Nat)):∀(ps:List (Nat×Nat×V)) (vs:List (Nat×Value)) (z cs:List V) (arr:Array Value),
 arr.size=z.length->oU O w σ z arr->ps.length=vs.length->(∀(i:Nat) p v,ps[i]? =some p->vs[i]? =some v->C v.1=some (p.1,p.2.1)/\VR O w σ p.2.2 v.2)->aE6 z ps=some cs->
 ∃B,Instr.fill C arr vs=some B/\B.size=cs.length/\oU O w σ cs B:=by
 intro ps
 induction ps with
 |nil=>
  intro vs z cs arr hs Q M R h
  cases vs with
  |nil=>simp only [aE6,zse] at h;subst h;exact⟨arr,rfl,hs,Q⟩
  |cons _ _=>simp at M
 |cons p r ih=>
  intro vs z cs arr hs Q M R h
  cases vs with
  |nil=>simp at M
  |cons v vr=>
   obtain⟨f,N,x⟩:=p;obtain⟨i,v⟩:=v;obtain⟨G,hv⟩:=R 0 _ _ rfl rfl;simp only at G hv;simp only [aE6] at h;split at h
   ·rename_i xc Z;split at h
    ·rename_i hc;obtain⟨aa,ac,F⟩:=hc;obtain⟨ad,Y⟩:=tM hv Z F;obtain⟨H,E⟩:=aVP v.cells f arr (by omega)
     obtain⟨B,h1,h2,h3⟩:=ih vr _ cs (v.cells.zipIdx.foldl (λcs (c,j)=>cs.setIfInBounds (f+j) c) arr) (by rw [H];simp;omega) (λj y J=>by
      rw [E]
      have hz:(z.take f++xc++z.drop (f+N))[j]? =if f<=j/\j<f+N then xc[j-f]? else z[j]? :=by
       rw [yO,zL,yE,zL,zK,zP];have :min f z.length=f:=by omega
       rw [this]
       by_cases D:j<f
       ·rw [if_pos D,if_pos D,if_neg (by omega)]
       ·rw [if_neg D]
        by_cases ab:j<f+N
        ·rw [if_pos (by omega),if_pos (by omega)]
        ·rw [if_neg (by omega),if_neg (by omega)]
         congr 1;omega
      rw [hz] at J
      by_cases hj:f<=j/\j<f+N
      ·rw [if_pos hj] at J;rw [if_pos (by omega)];exact Y _ _ J
      ·rw [if_neg hj] at J;rw [if_neg (by omega)];exact Q _ _ J) (by simpa using M) (λi p v T W=>R (i+1) p v (by simpa using T) (by simpa using W)) h
     refine⟨B,?_,h2,h3⟩;simp only [Instr.fill,G];rw [if_neg]
     ·exact h1
     ·simp;omega
    ·cases h
   ·cases h
def nZ(P:Program):List Field->Option (List (Nat×Nat))
 | []=>some []
 |f::r=>match bG P f.type,nZ P r with
  |some n,some ns=>some ((f.offset,n)::ns)
  |_,_=>none
theorem aID {P:Program} {w:World} :∀(l:List Field) (j:List (Nat×Nat)),nZ P l=some j->
 (l.mapM (m:=Sem) λf=>do pure (f.offset,<-sizeOf f.type)).run P w=.ok j w:=by
 intro l
 induction l with
 |nil=>intro j h;simp only [nZ,zse] at h;subst h;rfl
 |cons f r B=>
  intro j h;simp only [nZ] at h;split at h
  ·rename_i z h2;obtain rfl:=zsi h;rw [List.mapM_cons];simp only [Sem.run_bind,bE z,Result.andThen_ok,Sem.run_pure,B _ h2]
  ·cases h
def uQ(pl:Nat->Option (Nat×Nat)):List (Nat×Operand)->Option (List (Nat×Nat×A))
 | []=>some []
 | (i,x)::r=>match pl i,bK x,uQ pl r with
   |some (off,sz),some a,some ps=>some ((off,sz,a)::ps)
   |_,_,_=>none
def zeroOf(P:Program)(t:TypeId):Option (List V):=
 match P.info? t with
 |some i=>match i.zero with
  |some z=>aPW z.cells.toList
  |none=>none
 |none=>none
def bKZ(P:Program):Op->Option (List V×List (Nat×Nat×A))
 | .build t parts=>match zeroOf P t,P.underlying t with
   |some z,some (.struct fs)=>match nZ P fs.toList with
    |some ns=>(uQ (ns[·]?) parts.toList).map λps=>(z,ps)
    |none=>none
   |some z,some (.array _ e)=>match bG P e with
    |some es=>(uQ (λi=>some (i*es,es)) parts.toList).map λps=>(z,ps)
    |none=>none
   |_,_=>none
 |_=>none
theorem iY {P:Program} {t:TypeId} {z:List V} (h:zeroOf P t=some z):∃i f,P.info? t=some i/\i.zero=some f/\aPW f.cells.toList=some z:=by
 unfold zeroOf at h;split at h
 ·rename_i i j;split at h
  ·rename_i f B;exact⟨i,f,j,B,h⟩
  ·cases h
 ·cases h
theorem aCI {vs:List Value} {xs:List V} (h:aPW vs=some xs)(B:xs.all pY=true)(O:Nat->Prop)(w:World)(σ:Sg):vs.length=xs.length/\∀(j:Nat) (y:V),xs[j]? =some y->∃u,vs[j]? =some u/\u.oneCell'=true/\VR O w σ y u:=by obtain⟨C,D⟩:=aMO h;refine⟨C.symm,λj y f=>?_⟩;obtain⟨E,-⟩:=List.getElem?_eq_some_iff.1 f;have z:=zA (l:=vs) (i:=j) (by omega);have :=D j y _ f z O w σ;exact⟨_,z,aHU this (List.all_eq_true.1 B y (zI f)),this⟩
section
variable {P:Program} {U:Nat->Prop} {σ:Sg} {S:aD} {w:World} {n:Nat} {ρ:Operand->Value} {e:A->V}
theorem aI8(D:Nat->Option (Nat×Nat)):∀(l:List (Nat×Operand)) (ps:List (Nat×Nat×A)),uQ D l=some ps->(∀x a,bK x=some a->VR (Own U σ S) w σ (e a) (ρ x))->
 ps.length=l.length/\∀(i:Nat) p v,(ps.map λp=>(p.1,p.2.1,e p.2.2))[i]? =some p->(l.map λp=>(p.1,ρ p.2))[i]? =some v->D v.1=some (p.1,p.2.1)/\VR (Own U σ S) w σ p.2.2 v.2:=by
 intro l
 induction l with
 |nil=>intro ps h _;simp only [uQ,zse] at h;subst h;simp
 |cons q r J=>
  intro ps h C;obtain⟨i,x⟩:=q;simp only [uQ] at h;split at h
  ·rename_i M N a B E h2 F;obtain rfl:=zsi h;obtain⟨G,H⟩:=J B F C;refine⟨by simp [G],λj p v f z=>?_⟩
   cases j with
   |zero=> simp only [List.map_cons,zC,zse] at f z;subst f z;exact⟨E,C _ _ h2⟩
   |succ j=>exact H j p v (by simpa using f) (by simpa using z)
  ·cases h
theorem aN9 {o:Op} {z:List V} {ps:List (Nat×Nat×A)} (h:bKZ P o=some (z,ps))(M:z.all pY=true)(he:∀x a,bK x=some a->VR (Own U σ S) w σ (e a) (ρ x)) {cs:List V}
 (hf:aE6 z (ps.map λp=>(p.1,p.2.1,e p.2.2))=some cs):
 ∃cv,VR (Own U σ S) w σ (.agg cs) cv/\∀(w':World) (o':Oper),o'.op=o->(execOp ρ o').run P w'=.ok (.value cv) w':=by
 unfold bKZ at h;split at h
 ·rename_i t B;split at h
  ·rename_i z' fs hz hu;split at h
   ·rename_i O Z;simp only [zJ,Prod.mk.injEq] at h;obtain⟨aa,F,rfl,rfl⟩:=h;obtain⟨i,N,W,D,G⟩:=iY hz;obtain⟨Y,hp⟩:=aI8 (O[·]?) _ _ F he;obtain⟨J,H⟩:=aCI G M (Own U σ S) w σ;obtain⟨C,Q,h2,R⟩:=aL9 (O[·]?) _ (B.toList.map λp=>(p.1,ρ p.2)) z' cs N.cells (by simpa using J) (λj y hy=>by simpa using H j y hy) (by simp [Y]) hp hf;refine⟨.agg C,R.agg h2,λw' o' ho=>?_⟩
    have hm:(fs.mapM (m:=Sem) λf=>do pure (f.offset,<-sizeOf f.type)).run P w'=.ok O.toArray w':=by rw [Array.mapM_eq_mapM_toList];simp only [Sem.run_map,aID (P:=P) (w:=w') _ _ Z,Result.andThen_ok]
    have E:Instr.fill (λx=>(O.toArray)[x]?) N.cells (B.map λp=>(p.1,ρ p.2)).toList=some C:=by simpa using Q
    simp only [execOp,ho,Instr.build,zeroValue,typeInfo,Sem.run_bind,run_program,W,Result.andThen_ok,Sem.run_pure,D,run_underlying hu,hm];simp only [E,Sem.run_pure,Result.andThen_ok]
   ·cases h
  ·rename_i z' m el hz hu;split at h
   ·rename_i es T;simp only [zJ,Prod.mk.injEq] at h;obtain⟨aa,F,rfl,rfl⟩:=h;obtain⟨i,N,W,D,G⟩:=iY hz;obtain⟨Y,hp⟩:=aI8 _ _ _ F he;obtain⟨J,H⟩:=aCI G M (Own U σ S) w σ;obtain⟨C,Q,h2,R⟩:=aL9 (λi=>some (i*es,es)) _ (B.toList.map λp=>(p.1,ρ p.2)) z' cs N.cells (by simpa using J) (λj y hy=>by simpa using H j y hy) (by simp [Y]) hp hf;refine⟨.agg C,R.agg h2,λw' o' ho=>?_⟩
    have E:Instr.fill (λi=>some (i*es,es)) N.cells (B.map λp=>(p.1,ρ p.2)).toList=some C:=by simpa using Q
    simp only [execOp,ho,Instr.build,zeroValue,typeInfo,Sem.run_bind,run_program,W,Result.andThen_ok,Sem.run_pure,D,run_underlying hu,bE T];simp only [E,Sem.run_pure,Result.andThen_ok]
   ·cases h
  ·cases h
 ·cases h
end
end Go.Sk
namespace Go.Sk
open Go Go.RowKit
variable [gL]
def spl:List V->Nat->List V->List V
 |l,_,[]=>l
 |l,c,v::r=>spl (l.set c v) (c+1) r
theorem aHG:∀(cs l:List V) (c:Nat),(spl l c cs).length=l.length
 | [],_,_=>rfl
 |v::r,l,c=>by simp only [spl,aHG r,yG]
theorem aSU:∀(cs l:List V) (c:Nat),c+cs.length<=l.length->∀j,(spl l c cs)[j]? =if c<=j/\j<c+cs.length then cs[j-c]? else l[j]?
 | [],l,c,_,j=>by simp [spl];omega
 |v::r,l,c,h,j=>by
  simp only [zH] at h;simp only [spl,zH];rw [aSU r (l.set c v) (c+1) (by simp;omega) j]
  by_cases f:j=c
  ·subst f;rw [if_neg (by omega),if_pos (by omega),zS (by omega)];simp
  ·by_cases h2:c<=j/\j<c+(r.length+1)
   ·rw [if_pos (by omega),if_pos h2,show j-c=(j- (c+1))+1 by omega,zR]
   ·rw [if_neg (by omega),if_neg h2,zV (by omega)]
def aS(es:Nat)(l:List V)(c:Nat)(cs:List V):List V:=if c=0/\cs.length=es then cs else spl l c cs
theorem aEL {es:Nat} {l:List V} {c:Nat} {cs:List V} (B:l.length=es)(h:c+cs.length<=es):(aS es l c cs).length=es/\∀j,(aS es l c cs)[j]? =if c<=j/\j<c+cs.length then cs[j-c]? else l[j]? :=by
 unfold aS;split
 ·rename_i f;obtain⟨rfl,z⟩:=f;refine⟨z,λj=>?_⟩
  by_cases C:j<cs.length
  ·rw [if_pos (by omega)];simp
  ·rw [if_neg (by omega),yI (by omega),yI (by omega)]
 ·exact⟨by rw [aHG,B],aSU cs l c (by omega)⟩
def vX(es:Nat)(rows:List (List V)):List (Nat×V)->Option (List (List V))
 | []=>some rows
 | (i,x)::r=>match x.cells? with
   |some cs=>if cs.length=es/\i<rows.length/\cs.all cN=true then vX es (rows.set i cs) r else none
   |none=>none
theorem fA {es:Nat} :∀ {f:List (List V)},(∀x∈f,x.length=es)->f.flatten.length=f.length*es
 | [],_=>by simp
 |x::r,h=>by simp only [zQ,List.length_append,zH,zF,yD];rw [fA λy j=>h y (zW _ j),h x (by simp)];omega
theorem gP {es:Nat} :∀ {f:List (List V)},(∀x∈f,x.length=es)->∀(i:Nat) (x:List V) (c:Nat) (y:V),f[i]? =some x->x[c]? =some y->f.flatten[i*es+c]? =some y
 | [],_,i,x,c,y,j,_=>by simp at j
 |r::f,h,i,x,c,y,j,B=>by
  have C:r.length=es:=h r (by simp)
  cases i with
  |zero=> simp only [zC,zse] at j;subst j;obtain⟨D,-⟩:=List.getElem?_eq_some_iff.1 B;simp only [zQ,Nat.zero_mul,Nat.zero_add];rw [yA D];exact B
  |succ i=> simp only [zR] at j;simp only [zQ];rw [zZ (by rw [C,zF];omega),C];have :=gP (λz E=>h z (zW _ E)) i x c y j B;rw [show(i+1)*es+c-es=i*es+c by rw [zF];omega];exact this
theorem aE9 {es:Nat} :∀ {f:List (List V)},(∀x∈f,x.length=es)->∀(i:Nat) (cs:List V),i<f.length->cs.length=es->(f.set i cs).flatten=f.flatten.take (i*es)++cs++f.flatten.drop (i*es+es)
 | [],_,i,cs,hi,_=>by simp at hi
 |r::f,h,i,cs,hi,C=>by
  have j:r.length=es:=h r (by simp)
  cases i with
  |zero=>simp [j]
  |succ i=>
   simp only [List.set_cons_succ,zQ];rw [aE9 (λz D=>h z (zW _ D)) i cs (by simpa using hi) C];rw [List.take_append,List.drop_append,j];have e1:(i+1)*es-es=i*es:=by rw [zF];omega
   have B:(i+1)*es+es-es=i*es+es:=by rw [zF];omega
   rw [e1,B,List.take_of_length_le (l:=r) (by rw [j,zF];omega),List.drop_eq_nil_of_le (as:=r) (by rw [j,zF];omega)];simp
theorem aGL {O:Nat->Prop} {w:World} {σ:Sg} {x:V} {v:Value} {cs:List V} (h:VR O w σ x v)(f:x.cells?=some cs)(D:cs.all cN=true):VR O w (λ_=>none) x v:=by
 have z:∀y∈cs,cN y=true:=List.all_eq_true.1 D
 by_cases B:∃j,x=.agg j
 ·obtain⟨j,rfl⟩:=B;simp only [V.cells?,zse] at f;subst f
  cases h with
  |agg E h=>exact .agg E λi y u C F=>aY (h i y u C F) (z y (zI C))
 ·unfold V.cells? at f;split at f
  ·exact absurd ⟨_,rfl⟩ B
  ·split at f
   ·obtain rfl:=zsi f;exact aY h (z x (by simp))
   ·cases f
theorem rM {cs:List V} (h:cs.all cN=true):cs.all pY=true:=List.all_eq_true.2 λy f=>aQU (List.all_eq_true.1 h y f)
theorem aRR {O:Nat->Prop} {w:World} {σ:Sg} {es:Nat} :∀(ps:List (Nat×V)) (vs:List (Nat×Value)) (f z:List (List V)) (arr:Array Value),(∀x∈f,x.length=es)->
 arr.size=f.length*es->oU O w (λ_=>none) f.flatten arr->ps.length=vs.length->(∀(i:Nat) p v,ps[i]? =some p->vs[i]? =some v->v.1=p.1/\VR O w σ p.2 v.2)->vX es f ps=some z->
 (∀x∈z,x.length=es)/\z.length=f.length/\∃B,Instr.fill (λi=>some (i*es,es)) arr vs=some B/\B.size=z.length*es/\oU O w (λ_=>none) z.flatten B:=by
 intro ps
 induction ps with
 |nil=>
  intro vs f z arr C hs Z W J h
  cases vs with
  |nil=>simp only [vX,zse] at h;subst h;exact⟨C,rfl,arr,rfl,hs,Z⟩
  |cons _ _=>simp at W
 |cons p r ih=>
  intro vs f z arr C hs Z W J h
  cases vs with
  |nil=>simp at W
  |cons v vr=>
   obtain⟨i,x⟩:=p;obtain⟨G,v⟩:=v;obtain⟨rfl,hv⟩:=J 0 _ _ rfl rfl;simp only at hv;simp only [vX] at h;split at h
   ·rename_i Y R;split at h
    ·rename_i hc;obtain⟨E,aa,D⟩:=hc;have ad:=aGL hv R D;have N:G*es+es<=f.length*es:=by have :=zM es (show G+1<=f.length by omega);rw [zF,yD] at this;exact this
     have Q:=aL9 (λi=>some (i*es,es)) [(G*es,es,x)] [(G,v)] f.flatten ((f.set G Y).flatten) arr (by rw [hs,fA C]) Z rfl (λj p u J hu=>by
      cases j with
      |zero=>simp only [zC,zse] at J hu;subst J hu;exact⟨rfl,ad⟩
      |succ j=>simp at J) (by
      simp only [aE6,R];rw [if_pos ⟨E,by rw [fA C];exact N,rM D⟩,aE9 C G Y aa E])
     obtain⟨M,T,h2,h3⟩:=Q
     have F:∀y∈f.set G Y,y.length=es:=λy hy=>by
      rcases yC hy with h |h
      ·exact C y h
      ·rw [h];exact E
     obtain⟨a1,a2,B,a3,a4,a5⟩:=ih vr (f.set G Y) z M F (by rw [h2,fA F]) h3 (by simpa using W) (λi p v ab ac=>J (i+1) p v (by simpa using ab) (by simpa using ac)) h;refine⟨a1,by rw [a2,yG],B,?_,a4,a5⟩;simp only [Instr.fill] at T⊢;split at T
     ·cases T
     ·rename_i H;rw [if_neg H];obtain rfl:=zsi T;exact a3
    ·cases h
   ·cases h
def aUK(S:aD):V->Option (Nat×Nat×List (List V))
 | .lst es _ xs=>some (es,xs.length,xs)
 | .sl k off len=>match S.get k with
   |some (.row es xs)=>some (es,len,(xs.drop off).take len)
   |_=>none
 | .val (.slice _ 0 _)=>some (0,0,[])
 |_=>none
def aPR(S:aD)(x:V):Option (Nat×Nat×List (List V)):=aUK S (unk x)
def bB1(P:Program):Op->Option I
 | .alloc t=>match zeroOf P t with
   |some z=>if z.all pY=true then some (.alloc z) else none
   |none=>none
 | .box _ x=>(bK x).map .box
 | .store t a x=>match bG P t,bK a,bK x with
   |some m,some a,some x=>some (.st m a x)
   |_,_,_=>none
 | .buildSlice t m parts=>match P.underlying t with
   |some (.slice el)=>match bG P el,zeroOf P el,uQ (λi=>some (i,0)) parts.toList with
    |some es,some z,some ps=>if m*es<=16777216/\z.length=es/\0<es/\z.all cN=true then some (.bslice es z m (ps.map λp=>(p.1,p.2.2))) else none
    |_,_,_=>none
   |_=>none
 | .makeSlice t l c=>match P.underlying t,bK l,bK c with
   |some (.slice el),some l,some c=>match P.info? el,zeroOf P el with
    |some i,some z=>if z.length=i.size/\0<i.size/\z.all cN=true then some (.mk i.size i.bytes z l c) else none
    |_,_=>none
   |_,_,_=>none
 | .makeMap t none=>match P.underlying t with
   |some (.map kt _)=>match P.underlying kt with
    |some (.struct _)=>some (.mkmap 2)
    |_=>some (.mkmap 1)
   |_=>none
 | .slice t x none hi none=>match P.underlying t,bK x with
   |some (.array n el),some x=>match bG P el,hi with
    |some 1,none=>some (.aslc n x none)
    |some 1,some h=>(bK h).map λh=>.aslc n x (some h)
    |_,_=>none
   |_,_=>none
 | .convert s d x=>match P.underlying s,P.underlying d,bK x with
   |some .string,some (.slice e),some x=>match P.underlying e with
    |some (.int .u8)=>some (.s2b x)
    |_=>none
   |_,_,_=>none
 | .mapUpdate t m k x=>match P.underlying t,bK m,bK k,bK x with
   |some (.map kt _),some m,some k,some x=>match P.underlying kt with
    |some (.int .i64)=>some (.mput m k x)
    |some (.struct fs)=>if aHX P kt fs=true then some (.mputp m k x) else none
    |_=>none
   |_,_,_,_=>none
 | .call { callee:=.builtin .append,args,argTypes } =>match args.toList,argTypes.toList with
   | [x,y],[t,u]=>match P.underlying t,P.underlying u,bK x,bK y with
     |some (.slice el),some (.slice _),some x,some y=>match P.info? el,zeroOf P el with
      |some i,some z=>if z.length=i.size/\0<i.size then some (.app i.size i.bytes x y) else none
      |_,_=>none
     |_,_,_,_=>none
   |_,_=>none
 | .call { callee:=.builtin .clear,args,argTypes } =>match args.toList,argTypes.toList with
   | [x],[t]=>match P.underlying t,bK x with
     |some (.slice el),some x=>match bG P el,zeroOf P el with
      |some es,some z=>if z.length=es/\0<es/\z.all cN=true then some (.clr es z x) else none
      |_,_=>none
     |_,_=>none
   |_,_=>none
 | .call { callee:=.builtin .copy,args,argTypes } =>match args.toList,argTypes.toList with
   | [x,y],[t,u]=>match P.underlying t,P.underlying u,bK x,bK y with
     |some (.slice el),some (.slice _),some x,some y=>match bG P el with
      |some es=>if 0<es then some (.cpy es x y) else none
      |none=>none
     |some (.slice el),some .string,some x,some y=>match bG P el with
      |some 1=>some (.cpys x y)
      |_=>none
     |_,_,_,_=>none
   |_,_=>none
 |_=>none
def pO(S:aD)(n:Nat)(i:I)(e:A->V)(K:V->aD->Nat->Prop):Prop:=
 match i with
 | .alloc z=>K (.ptr n 0 0) (S.set n (.box z)) (n+1)
 | .box x=>match(e x).cells? with
   |some cs=>cs.all pY=true/\K (.ptr n 0 0) (S.set n (.box cs)) (n+1)
   |none=>False
 | .st m x y=>match e x,(e y).cells? with
   | .ptr k i c,some cs=>match S.get k with
     |some (.row es xs)=>i<xs.length/\c+m<=es/\cs.length=m/\cs.all cN=true/\K .any (S.set k (.row es (xs.set i (aS es (xs.getD i []) c cs)))) n
     |some (.box bs)=>i=0/\c+m<=bs.length/\cs.length=m/\cs.all pY=true/\K .any (S.set k (.box (aS bs.length bs c cs))) n
     |some (.bb l)=>match cs with
      | [.int .u8 v]=>(m=1/\c=0)/\i<l.length/\(0<=v/\v<256)/\K .any (S.set k (.bb (l.set i (UInt8.ofNat v.toNat)))) n
      |_=>False
     |_=>False
   |_,_=>False
 | .s2b x=>match e x with
   | .str s=>s.size<=9223372036854775807/\K (.sl n 0 s.size) (S.set n (.bb s.data.toList)) (n+1)
   |_=>False
 | .aslc len x hi=>match e x with
   | .ptr k 0 0=>match S.get k with
     |some (.box cs)=>match(match hi with |none=>V.int .i64 (len:Int)|some h=>e h) with
      | .int _ h=>(cs.length=len/\cs.all cN=true/\0<=h/\h<=(len:Int))/\K (.lst 1 false ((cs.take h.toNat).map λc=> [c])) (S.del k) n
      |_=>False
     |_=>False
   |_=>False
 | .cpys x y=>match e y,unk (e x) with
   | .str s,.sl k off len=>match S.get k with
     |some (.row 1 xs)=>off+len<=xs.length/\
      K (.int .i64 (min s.size len:Nat)) (S.set k (.row 1 (xs.take off++(jT s.data.toList).take (min s.size len)++xs.drop (off+min s.size len)))) n
     |some (.bb l)=>off+len<=l.length/\
      K (.int .i64 (min s.size len:Nat)) (S.set k (.bb (l.take off++s.data.toList.take (min s.size len)++l.drop (off+min s.size len)))) n
     |_=>False
   |_,_=>False
 | .mkmap ks=>K (.mp n) (S.set n (.mp (ks,[]))) (n+1)
 | .mput x i y=>match e x,e i with
   | .mp k,.int .i64 j=>match S.get k with
     |some (.mp (1,xs))=>cN (e y)=true/\K .any (S.set k (.mp (1,iU xs [j] (e y)))) n
     |_=>False
   |_,_=>False
 | .mputp x i y=>match e x,e i with
   | .mp k,.agg [.int .i64 a,.int .i64 b]=>match S.get k with
     |some (.mp (2,xs))=>cN (e y)=true/\K .any (S.set k (.mp (2,iU xs [a,b] (e y)))) n
     |_=>False
   |_,_=>False
 | .bslice es z m ps=>match vX es (zE m z) (ps.map λp=>(p.1,e p.2)) with
   |some rows=>K (.sl n 0 m) (S.set n (.row es rows)) (n+1)
   |none=>False
 | .mk es bytes z l c=>match e l,e c with
   | .int _ l,.int _ c=>0<=l/\l<=c/\(bytes:Int)*c<=281474976710656/\c<=9223372036854775807/\K (.slk n 0 l.toNat c.toNat) (S.set n (.row es (zE l.toNat z))) (n+1)
   |_,_=>False
 | .app es bytes x y=>match aPR S (e y) with
   |some (es',len',ys)=>(es'=es\/ys=[])/\ys.length=len'/\match unk (e x) with
    | .lst _ true []=>(ys.length:Int)<=9223372036854775807/\ys.length*bytes<=140737488355328/\K (.sl n 0 ys.length) (S.set n (.row es ys)) (n+1)
    | .sl k off len=>match S.get k with
      |some (.row es2 xs)=>es2=es/\off=0/\len=xs.length/\((xs.length+ys.length:Nat):Int)<=9223372036854775807/\(xs.length+ys.length)*bytes<=140737488355328/\
       K (.sl n 0 (xs.length+ys.length)) ((S.del k).set n (.row es (xs++ys))) (n+1)
      |_=>False
    | .slx k off len=>match S.get k with
      |some (.row es2 xs)=>es2=es/\off=0/\len<=xs.length/\((len+ys.length:Nat):Int)<=9223372036854775807/\(len+ys.length)*bytes<=140737488355328/\
       K (.sl n 0 (len+ys.length)) ((S.del k).set n (.row es (xs.take len++ys))) (n+1)
      |_=>False
    |_=>False
   |none=>False
 | .clr es z x=>match unk (e x) with
   | .sl k off len=>match S.get k with
     |some (.row es2 xs)=>es2=es/\off+len<=xs.length/\K (.tup []) (S.set k (.row es (xs.take off++zE len z++xs.drop (off+len)))) n
     |_=>False
   |_=>False
 | .cpy es x y=>match aPR S (e y),unk (e x) with
   |some (es',len',ys),.sl k off len=>match S.get k with
    |some (.row es2 xs)=>(es'=es\/ys=[])/\ys.length=len'/\es2=es/\off+len<=xs.length/\
     K (.int .i64 (min ys.length len:Nat)) (S.set k (.row es (xs.take off++ys.take (min ys.length len)++xs.drop (off+min ys.length len)))) n
    |_=>False
   |_,_=>False
 |_=>False
def rL(P:Program)(U:Nat->Prop)(σ:Sg)(S:aD)(w:World)(n m:Nat)(ρ:Operand->Value)(o:Op)(K:V->aD->Nat->Prop):Prop:= ∃v S' n',K v S' n'/\∀(o':Oper),o'.op=o->∃nx cv w' σ',(execOp ρ o').run P w=.ok nx w'/\(nx=.value cv\/(nx=.skip/\cv=undef))/\(∀k,k≠m->σ' k=σ k)/\bP σ S w n σ' S' w' (max n n')/\aV U σ' S' w' (max n n')/\VR (Own U σ' S') w' σ' v cv
section
variable {P:Program} {U:Nat->Prop} {σ:Sg} {S:aD} {w:World} {n m:Nat} {ρ:Operand->Value} {e:A->V} {K:V->aD->Nat->Prop}
theorem bBR {t:TypeId} {z:List V} (R:zeroOf P t=some z)(D:z.all pY=true)(F:aV U σ S w n)(f:S.get m=none/\σ m=none)(E:pO S m (.alloc z) e K):rL P U σ S w n m ρ (.alloc t) K:=by
 obtain⟨i,C,H,j,B⟩:=iY R;obtain⟨M,G⟩:=aCI B D (Own U σ S) w σ;obtain⟨g,r⟩:=F.new_box f (nR.alloc w C.cells t) (cs:=z) (by simpa using M) (λi y Q=>by simpa using G i y Q);refine⟨_,_,_,E,λo' N=>⟨_,.pointer (some ⟨w.heap.size,0,none⟩),_,_,?_,.inl rfl,(by intro k J;first |rfl |exact Sg.put_other _ _ J),g,r,?_⟩⟩
 ·simp [execOp,N,Instr.alloc,zeroValue,typeInfo,H,j,newVar,newRow]
 ·have :=VR.ptr (O:=Own U (σ.put m (some w.heap.size,z.length,1)) (S.set m (.box z))) (w:=w.alloc (.cells C.cells t)) (i:=0) (c:=0) (Sg.put_same σ m (some w.heap.size,z.length,1));simpa using this
theorem bLC {t:TypeId} {x:Operand} {a:A} (J:VR (Own U σ S) w σ (e a) (ρ x))(D:aV U σ S w n)(f:S.get m=none/\σ m=none)(j:pO S m (.box a) e K):rL P U σ S w n m ρ (.box t x) K:=by
 simp only [pO] at j;split at j
 ·rename_i z B;obtain⟨C,j⟩:=j;obtain⟨G,E⟩:=tM J B C;obtain⟨g,r⟩:=D.new_box f (nR.alloc w (ρ x).cells t) (cs:=z) G E;refine⟨_,_,_,j,λo' H=>⟨_,.pointer (some ⟨w.heap.size,0,none⟩),_,_,?_,.inl rfl,(by intro k F;first |rfl |exact Sg.put_other _ _ F),g,r,?_⟩⟩
  ·simp [execOp,H,Instr.box,newVar,newRow]
  ·have :=VR.ptr (O:=Own U (σ.put m (some w.heap.size,z.length,1)) (S.set m (.box z))) (w:=w.alloc (.cells (ρ x).cells t)) (i:=0) (c:=0) (Sg.put_same σ m (some w.heap.size,z.length,1));simpa using this
 ·cases j
theorem aPZ {t:TypeId} {j:Nat} (B:aV U σ S w n)(f:S.get m=none/\σ m=none)(z:pO S m (.mkmap j) e K):rL P U σ S w n m ρ (.makeMap t none) K:=by obtain⟨g,r⟩:=B.new_map j f;exact⟨_,_,_,z,λo' D=>⟨_,.map (some w.heap.size),_,_,(by simp only [execOp,D,Option.map_none,Sem.run_bind,run_makeMap,Result.andThen_ok];rfl),.inl rfl,(by intro k C;first |rfl |exact Sg.put_other _ _ C),g,r,.mp (Sg.put_same σ m _)⟩⟩
theorem aQ0 {t kt el:TypeId} {x i y:Operand} {c:A} {key:List Int} {k:Nat} {xs:List (List Int×V)} {vx:Value} (ht:P.underlying t=some (.map kt el))(hL:KeyLaw P kt key)(af:ρ x=vx)(hx:VR (Own U σ S) w σ (.mp k) vx)(hi:ρ i=kyV key)(hy:VR (Own U σ S) w σ (e c) (ρ y))
 (hR:aV U σ S w n) (ai:m<=n) (ho:S.get k=some (.mp (key.length,xs))) (ab:cN (e c)=true) {K:V->aD->Nat->Prop} (hK:K .any (S.set k (.mp (key.length,iU xs key (e c)))) m):rL P U σ S w n m ρ (.mapUpdate t x i y) K:=by
 have Q:max n m=n:=by omega
 cases hx with
 | @mp _ k N ag cap hs=>
   have R:=hR.obj k _ ho;rw [hs] at R;obtain⟨b',hl,es,ck,J,D,B⟩:=R;simp only [zse,Prod.mk.injEq] at hl;obtain⟨rfl,rfl,rfl⟩:=hl;have ah:N<w.heap.size:=(Array.getElem?_eq_some_iff.1 J).1;have Y:=aY hy ab
   have Z:∃z C,(Instr.mapUpdate t (.map (some N)) (kyV key) (ρ y)).run P w=.ok () { w with heap:=w.heap.setIfInBounds N (.map z C) } /\z.size=(iU xs key (e c)).length/\
    ∀(i:Nat) (p:List Int×V),(iU xs key (e c))[i]? =some p->∃en,z[i]? =some en/\(p.1.length=key.length/\en.key=kyV p.1)/\VR (Own U σ S) w (λ_=>none) p.2 en.val:=by
    rcases hL.find (Own U σ S) w .any es.toList xs (by simpa using D) (λi p f=>by simpa using B i p f) with ⟨q1,-,-,M⟩| ⟨idx,val,q1,-,-,M,q5,q6⟩
    ·refine⟨es.push { key:=kyV key,val:=ρ y,born:=ck },ck+1,?_,by rw [M];simp [D],λi p f=>?_⟩
     ·unfold Instr.mapUpdate;simp only [Sem.run_bind,run_underlying ht,Result.andThen_ok,MapKept.run_getObj_map J,Sem.run_pure,hL.chk,q1,MapKept.run_setObj_map _ J]
     ·rw [M,zL] at f;split at f
      ·rename_i ad;obtain⟨en,h1,h2,h3⟩:=B i p f;exact⟨en,by rw [zN,if_neg (by dsimp only at D;omega)];exact h1,h2,h3⟩
      ·rename_i ad;have ac:i=xs.length:=by have :=(List.getElem?_eq_some_iff.1 f).1;simp at this;omega
       subst ac;simp only [Nat.sub_self,zC,zse] at f;subst f;exact⟨_,by rw [zN,if_pos D.symm],⟨rfl,rfl⟩,Y⟩
    ·obtain⟨aa,e1,⟨-,e2⟩,-⟩:=B idx xs[idx] (zA M);have O:aa.key=kyV key:=by rw [e2,q5 _ (zA M)]
     refine⟨es.modify idx λen=> { en with key:=kyV key,val:=ρ y },ck,?_,by rw [q6];simp [D],λi p f=>?_⟩
     ·unfold Instr.mapUpdate;simp only [Sem.run_bind,run_underlying ht,Result.andThen_ok,MapKept.run_getObj_map J,Sem.run_pure,hL.chk,q1];rw [e1];simp only [yR,yF,O,hL.stay,Result.andThen_ok,MapKept.run_setObj_map _ J]
     ·rw [q6,List.getElem?_set] at f;rw [Array.getElem?_modify];split at f
      ·rename_i F;subst F;simp only [M,if_true,zse] at f;subst f;rw [if_pos rfl,e1];exact⟨_,rfl,⟨rfl,rfl⟩,Y⟩
      ·rename_i F;rw [if_neg F];exact B i p f
   obtain⟨z,C,T,W,E⟩:=Z;obtain⟨G,H⟩:=MapKept.heap_set (o':=.map z C) J;obtain⟨g,r⟩:=hR.write (o:=.mp (key.length,iU xs key (e c))) ho hs (w':= { w with heap:=w.heap.setIfInBounds N (.map z C) }) rfl rfl rfl (by simp) (λj hj=>H j hj) (λg=> ⟨N,rfl,z,C,G,W,λi p f=>by obtain⟨en,h1,h2,h3⟩:=E i p f;exact⟨en,h1,h2,h3.mono (g.keepU U) (g.ownU U) λ_ _=>rfl⟩⟩)
   exact⟨_,_,_,hK,λo' ae=>⟨_,undef,_,σ,by simp only [execOp,ae,af,hi,Sem.run_bind,T,Result.andThen_ok];rfl,.inr ⟨rfl,rfl⟩,λ_ _=>rfl,by rw [Q];exact g,by rw [Q];exact r,.any _⟩⟩
theorem bFA {t E el:TypeId} {x i y:Operand} {a b c:A} (J:P.underlying t=some (.map E el))(G:P.underlying E=some (.int .i64))(D:VR (Own U σ S) w σ (e a) (ρ x))(hi:VR (Own U σ S) w σ (e b) (ρ i))(M:VR (Own U σ S) w σ (e c) (ρ y))
 (F:aV U σ S w n) (C:m<=n) (f:pO S m (.mput a b c) e K):rL P U σ S w n m ρ (.mapUpdate t x i y) K:=by
 simp only [pO] at f;split at f
 ·rename_i k j z B;rw [z] at D;rw [B] at hi;split at f
  ·rename_i xs H;refine aQ0 J (KeyLaw.int G j) rfl D ?_ M F C H f.1 f.2;generalize ρ i=N at hi;cases hi;rfl
  ·cases f
 ·cases f
theorem bBS {t C el:TypeId} {D:Array Field} {x i y:Operand} {a b c:A} (M:P.underlying t=some (.map C el))(G:P.underlying C=some (.struct D))(J:aHX P C D=true)(E:VR (Own U σ S) w σ (e a) (ρ x))(hi:VR (Own U σ S) w σ (e b) (ρ i))(N:VR (Own U σ S) w σ (e c) (ρ y))
 (F:aV U σ S w n) (B:m<=n) (f:pO S m (.mputp a b c) e K):rL P U σ S w n m ρ (.mapUpdate t x i y) K:=by
 simp only [pO] at f;split at f
 ·rename_i k p q j z;rw [j] at E;rw [z] at hi;split at f
  ·rename_i xs H;exact aQ0 M (KeyLaw.pair G J p q) rfl E (aTS hi) N F B H f.1 f.2
  ·cases f
 ·cases f
theorem pI(g o:Nat)(t:TypeId)(z:Nat×Nat):∀(vs:List Value) (i:Nat) (f:Array Value) (w:World),w.heap[g]? =some (.cells f t z)->(∀j,j<f.size->¬(z.1<=j/\j<z.2))->o+i+vs.length<=f.size->(∀v∈vs,v.oneCell'=true)->
 (storeCells ⟨g,o,none⟩ vs i).run P w=.ok () (w.setRow g (f.toList.take (o+i)++vs++f.toList.drop (o+i+vs.length)).toArray)
 | [],i,f,w,hg,_,_,_=>by simp only [storeCells,List.append_nil,zX,Nat.add_zero,List.take_append_drop,zU];rw [setRow_self w g f t z hg];rfl
 |v::rest,i,f,w,hg,D,F,H=>by
  have hi:o+i<f.size:=by simp at F;omega
  have C:(⟨g,o,none⟩:Addr).add i=⟨g,o+i,none⟩:=by unfold Addr.add;split <;> simp_all
  have B:w.cell? ⟨g,o+i,none⟩=some f[o+i]:=by simp [World.cell?,hg,hi]
  have E:w.frozen? ⟨g,o+i,none⟩=false:=by
   have :=D (o+i) hi;simp only [World.frozen?,hg];simp only [Bool.and_eq_false_iff,zdn]
   by_cases h:z.1<=o+i
   ·exact .inr λh2=>this ⟨h,h2⟩
   ·exact .inl h
  have G:(store ((⟨g,o,none⟩:Addr).add i) v).run P w=.ok () (w.setRow g (f.setIfInBounds (o+i) v)):=by rw [C,run_store P w _ v _ (H v (by simp)),B];simp [E,setCell_eq_setRow w g (o+i) f t z v hg]
  have N:=pI g o t z rest (i+1) (f.setIfInBounds (o+i) v) (w.setRow g (f.setIfInBounds (o+i) v)) (setRow_heap w g f _ t _ hg) (λj J=>D j (by simpa using J)) (by simp at F⊢;omega) (λx M=>H x (by simp [M]));simp only [storeCells,Sem.run_bind,G,Result.andThen_ok,N,setRow_setRow]
  congr 3
  have e:=list_seg_step f.toList (o+i) v rest (by simp at F⊢;omega);simpa [Array.toList_setIfInBounds,yN] using e
theorem vR(b:Bool)(n j:Nat)(h:j<n):¬((mkF b n).1<=j/\j< (mkF b n).2):=λh=>yH _ h.2
theorem eW {g o:Nat} {ty:TypeId} {C:Nat×Nat} {f:Array Value} (vs:Array Value)(hg:w.heap[g]? =some (.cells f ty C))(D:∀j,j<f.size->¬(C.1<=j/\j<C.2))(E:o+vs.size<=f.size)(F:∀v∈vs.toList,v.oneCell'=true):
 ∃z,(storeCells ⟨g,o,none⟩ vs.toList).run P w=.ok () (w.setRow g z)/\z.size=f.size/\∀j,z[j]? =if o<=j/\j<o+vs.size then vs[j-o]? else f[j]? :=by
 have :=pI (P:=P) g o ty C vs.toList 0 f w hg D (by simpa using E) F;refine⟨_,this,by simp;omega,λj=>?_⟩;simp only [Nat.add_zero,List.getElem?_toArray,zO];rw [yO,zL,yE,zL,zK,zP];have :min o f.toList.length=o:=by simp;omega
 rw [this];simp only [zO,yJ]
 by_cases B:j<o
 ·rw [if_pos B,if_pos B,if_neg (by omega)]
 ·rw [if_neg B]
  by_cases G:j<o+vs.size
  ·rw [if_pos (by omega),if_pos (by omega)]
  ·rw [if_neg (by omega),if_neg (by omega)]
   congr 1;omega
theorem aW6 {i f es c j m:Nat} (z:f≠i)(B:c+m<=es)(h2:j<es):¬(i*es+c<=f*es+j/\f*es+j<i*es+c+m):=by
 rcases Nat.lt_or_gt_of_ne z with h |h
 ·have :=zM es (show f+1<=i by omega);rw [zF,yD] at this;omega
 ·have :=zM es (show i+1<=f by omega);rw [zF,yD] at this;omega
theorem bBU {t:TypeId} {mm:Nat} {x y:Operand} {a b:A} (hm:bG P t=some mm)(hx:VR (Own U σ S) w σ (e a) (ρ x))(hy:VR (Own U σ S) w σ (e b) (ρ y))(hR:aV U σ S w n)
 (H:pO S m (.st mm a b) e K) (az:m<=n):rL P U σ S w n m ρ (.store t x y) K:=by
 have T:max n m=n:=by omega
 have aj:∀(E o:Nat) (w':World),ρ x=.pointer (some ⟨E,o,none⟩)->(ρ y).cells.size=mm->(storeCells ⟨E,o,none⟩ (ρ y).cells.toList).run P w=.ok () w'->
  ∀(o':Oper),o'.op=.store t x y->(execOp ρ o').run P w=.ok .skip w':=by
  intro E o w' h1 h2 h3 o' ho;simp only [execOp,ho,Instr.storeAt,h1,Instr.sureAddr,storeVar,Sem.run_bind,pure_bind,bE hm,Result.andThen_ok,h2,ne_eq,not_true_eq_false,if_false,h3,Sem.run_pure]
 simp only [pO] at H;split at H
 ·rename_i k i c W h1 h2;rw [h1] at hx;generalize af:ρ x=va at hx
  cases hx with
  | @ptr _ _ _ _ E es cap hs=>
    split at H
    ·rename_i ax xs ho;obtain⟨hi,ap,ak,Z,H⟩:=H;have G:=hR.obj k _ ho;rw [hs] at G;obtain⟨ag,rfl,Y,Q,ty,hh,al,B⟩:=G;have au:=aGL hy h2 Z;obtain⟨N,M⟩:=tM au h2 (rM Z);have ar:(xs.getD i []).length=es:=by simp only [zD,zA hi,yF];exact ag _ (yQ hi)
     have aw:i*es+es<=cap*es:=by have :=zM es (show i+1<=cap by omega);rw [zF,yD] at this;exact this
     obtain⟨f,ac,O,F⟩:=eW (P:=P) (o:=i*es+c) (ρ y).cells hh (vR _ _) (by omega) (λv hv=>by obtain⟨j,J,rfl⟩:=zY hv;simp only [zO] at J;obtain⟨u,D,ae,-⟩:=M j _ (zA (by omega:j<W.length));rw [zG J] at D;obtain rfl:=zsi D;simpa using ae);obtain⟨ai,ah⟩:=aEL (cs:=W) (c:=c) ar (by omega)
     obtain⟨g,r⟩:=hR.write (o:=.row es (xs.set i (aS es (xs.getD i []) c W))) ho hs (w':=w.setRow E f) rfl rfl rfl (by simp) (λj J=>setRow_other w E j f J) (λg=>by
      refine⟨λz hz=>?_,rfl,by simpa using Y,f,ty,by rw [O];exact setRow_heap w E Q f ty.1 _ hh,by omega,λi' x c' y ad C=>?_⟩
      ·rcases yC hz with h |h
       ·exact ag z h
       ·rw [h];exact ai
      ·have g0:∀ {x v},VR (Own U σ S) w (λ_=>none) x v->VR (Own U σ (S.set k (.row es (xs.set i (aS es (xs.getD i []) c W))))) (w.setRow E f) (λ_=>none) x v:=λh=>h.mono (g.keepU U) (g.ownU U) λ_ _=>rfl;rw [F]
       by_cases R:i'=i
       ·subst R;rw [zS hi] at ad;obtain rfl:=zsi ad;rw [ah] at C
        by_cases hc:c<=c'/\c'<c+W.length
        ·rw [if_pos hc] at C;rw [if_pos (by omega),show i'*es+c'- (i'*es+c)=c'-c by omega];obtain⟨u,q1,q2,q3⟩:=M _ _ C;exact⟨u,q1,q2,g0 q3⟩
        ·rw [if_neg hc] at C;rw [if_neg (by omega)];simp only [zD,zA hi,yF] at C;obtain⟨u,q1,q2,q3⟩:=B i' _ c' y (zA hi) C;exact⟨u,q1,q2,g0 q3⟩
       ·rw [zV (Ne.symm R)] at ad;have ao:c'<es:=by obtain⟨h',-⟩:=List.getElem?_eq_some_iff.1 C;rw [ag x (zI ad)] at h';exact h'
        rw [if_neg (by rw [N];exact aW6 R (by omega) ao)];obtain⟨u,q1,q2,q3⟩:=B i' x c' y ad C;exact⟨u,q1,q2,g0 q3⟩)
     exact⟨_,_,_,H,λo' aa=>⟨_,undef,_,σ,aj E _ _ af (by omega) ac o' aa,.inr ⟨rfl,rfl⟩,λ_ _=>rfl,by rw [T];exact g,by rw [T];exact r,.any _⟩⟩
    ·rename_i bs ho;obtain⟨rfl,ap,ak,ab,H⟩:=H;have G:=hR.obj k _ ho;rw [hs] at G;obtain⟨b',hl,Q,ty,hh,al,B⟩:=G;simp only [zse,Prod.mk.injEq] at hl;obtain⟨rfl,rfl,rfl⟩:=hl;obtain⟨N,M⟩:=tM hy h2 ab
     obtain⟨f,ac,O,F⟩:=eW (P:=P) (o:=c) (ρ y).cells hh (λj _ h=>yH _ h.2) (by omega) (λv hv=>by obtain⟨j,J,rfl⟩:=zY hv;simp only [zO] at J;obtain⟨u,D,ae,-⟩:=M j _ (zA (by omega:j<W.length));rw [zG J] at D;obtain rfl:=zsi D;simpa using ae);obtain⟨ai,ah⟩:=aEL (l:=bs) (cs:=W) (c:=c) rfl (by omega)
     obtain⟨g,r⟩:=hR.write (o:=.box (aS bs.length bs c W)) ho hs (w':=w.setRow E f) rfl rfl rfl (by simp) (λj J=>setRow_other w E j f J) (λg=>by
      refine⟨E,by rw [ai],f,ty,setRow_heap w E Q f ty _ hh,by omega,λc' y C=>?_⟩;have g0:∀ {x v},VR (Own U σ S) w σ x v->VR (Own U σ (S.set k (.box (aS bs.length bs c W)))) (w.setRow E f) σ x v:=λh=>h.grow g;rw [ah] at C;rw [F]
      by_cases hc:c<=c'/\c'<c+W.length
      ·rw [if_pos hc] at C;rw [if_pos (by omega)];obtain⟨u,q1,q2,q3⟩:=M _ _ C;exact⟨u,q1,q2,g0 q3⟩
      ·rw [if_neg hc] at C;rw [if_neg (by omega)];obtain⟨u,q1,q2,q3⟩:=B c' y C;exact⟨u,q1,q2,g0 q3⟩)
     simp only [Nat.zero_mul,Nat.zero_add] at af;exact⟨_,_,_,H,λo' aa=>⟨_,undef,_,σ,aj E _ _ af (by omega) ac o' aa,.inr ⟨rfl,rfl⟩,λ_ _=>rfl,by rw [T];exact g,by rw [T];exact r,.any _⟩⟩
    ·rename_i l ho;split at H
     ·rename_i v;obtain⟨⟨rfl,rfl⟩,hi,⟨a0,a1⟩,H⟩:=H;have G:=hR.obj k _ ho;rw [hs] at G;obtain⟨b',av,hl,Y,Q,ty,hh,al,B⟩:=G;simp only [zse,Prod.mk.injEq] at hl;obtain⟨rfl,rfl,rfl⟩:=hl;obtain⟨N,M⟩:=tM hy h2 rfl;obtain⟨u,D,ae,aq⟩:=M 0 _ rfl
      cases aq with
      |int=>
      have ay:i<Q.size:=by omega
      have ab:∀z∈(ρ y).cells.toList,z.oneCell'=true:=λz hz=>by
       obtain⟨j,J,rfl⟩:=zY hz;simp only [zO] at J;simp only [zH,zX] at N;obtain rfl:j=0:=by omega
       rw [zG J] at D;have D:=zsi D;rw [Array.getElem_toList,D];rfl
      obtain⟨f,ac,O,F⟩:=eW (P:=P) (o:=i*1+0) (ρ y).cells hh (λj J h'=>Nat.not_le_of_gt J h'.1) (by simp only [zH,zX] at N;omega) ab;have am:((UInt8.ofNat v.toNat).toNat:Int)=v:=by rw [UInt8.toNat_ofNat'];omega
      obtain⟨g,r⟩:=hR.write (o:=.bb (l.set i (UInt8.ofNat v.toNat))) ho hs (w':=w.setRow E f) rfl rfl rfl (by simp) (λj J=>setRow_other w E j f J) (λg=>by
       refine⟨E,_,rfl,by rw [yG];exact Y,f,ty,by rw [O];exact setRow_heap w E Q f ty _ hh,by omega,λi' x hx=>?_⟩;rw [F];simp only [zH,zX] at N
       by_cases R:i'=i
       ·subst R;rw [zS hi] at hx;obtain rfl:=zsi hx;rw [if_pos (by omega),show i'- (i'*1+0)=0 by omega,D,am]
       ·rw [zV (Ne.symm R)] at hx;rw [if_neg (by omega)];exact B i' x hx)
      exact⟨_,_,_,H,λo' aa=>⟨_,undef,_,σ,aj E _ _ af (by simpa using N) ac o' aa,.inr ⟨rfl,rfl⟩,λ_ _=>rfl,by rw [T];exact g,by rw [T];exact r,.any _⟩⟩
     ·cases H
    ·cases H
 ·cases H
theorem fH {es:Nat} {z:List V} (B:z.length=es)(f:0<es):∀(m j:Nat),j<m*es->(zE m z).flatten[j]? =z[j%es]?
 |0,j,h=>by simp at h
 |m+1,j,h=>by
  simp only [List.replicate_succ,zQ]
  by_cases C:j<es
  ·rw [yA (by omega),Nat.mod_eq_of_lt C]
  ·rw [zZ (by omega),B,fH B f m (j-es) (by rw [zF] at h;omega),<-Nat.mod_eq_sub_mod (by omega)]
theorem aE2 {O:Nat->Prop} {w:World} {el:TypeId} {z:List V} {es:Nat} {B:Value} (H:aPW B.cells.toList=some z)(C:z.all cN=true)(M:z.length=es)(f:0<es)(m:Nat):
 oU O w (λ_=>none) (zE m z).flatten ((yL (m*es)).map (B.cells[·%B.cells.size]!)):=by
 obtain⟨R,Q⟩:=aCI H (rM C) O w (λ_=>none);have F:B.cells.size=es:=by simpa [M] using R
 have D:∀x∈zE m z,x.length=es:=λx T=>by rw [(List.mem_replicate.1 T).2];exact M
 intro j y J;obtain⟨G,-⟩:=List.getElem?_eq_some_iff.1 J;rw [fA D,zT] at G;rw [fH M f m j G] at J;obtain⟨u,C,h2,N⟩:=Q _ y J;have E:j%es<B.cells.size:=by rw [F];exact Nat.mod_lt _ f
 refine⟨u,?_,h2,N⟩;simp only [yJ] at C;rw [Array.getElem?_map,Array.getElem?_range,if_pos G];simp only [yR,F];rw [getElem!_pos B.cells (j%es) E];rw [zG E] at C;exact C
theorem aWM:∀(l:List (Nat×Operand)) (ps:List (Nat×Nat×A)),uQ (λi=>some (i,0)) l=some ps->(∀x a,bK x=some a->VR (Own U σ S) w σ (e a) (ρ x))->
 ps.length=l.length/\∀(i:Nat) p v,((ps.map λp=>(p.1,p.2.2)).map λp=>(p.1,e p.2))[i]? =some p->(l.map λp=>(p.1,ρ p.2))[i]? =some v->v.1=p.1/\VR (Own U σ S) w σ p.2 v.2:=by
 intro l
 induction l with
 |nil=>intro ps h _;simp only [uQ,zse] at h;subst h;simp
 |cons q r H=>
  intro ps h D;obtain⟨i,x⟩:=q;simp only [uQ] at h;split at h
  ·rename_i J M a B C h2 E;obtain rfl:=zsi h;obtain⟨F,G⟩:=H B E D;refine⟨by simp [F],λj p v f z=>?_⟩;simp only [zse,Prod.mk.injEq] at C;obtain⟨rfl,rfl⟩:=C
   cases j with
   |zero=> simp only [List.map_cons,zC,zse] at f z;subst f z;exact⟨rfl,D _ _ h2⟩
   |succ j=>exact G j p v (by simpa using f) (by simpa using z)
  ·cases h
theorem VR.row(σ:Sg)(O:Nat->Prop)(w:World)(m b es cap len:Nat)(f:len<=cap):VR O w (σ.put m (some b,es,cap)) (.sl m 0 len) (.slice (some ⟨b,0,none⟩) len cap):=by have :=VR.sl (O:=O) (w:=w) (off:=0) (len:=len) (a:=some ⟨b,0*es,none⟩) (Sg.put_same σ m (some b,es,cap)) (by omega) (λ_=>rfl);simpa using this
theorem VR.rowk(σ:Sg)(O:Nat->Prop)(w:World)(m b es cap len:Nat)(f:len<=cap):VR O w (σ.put m (some b,es,cap)) (.slk m 0 len cap) (.slice (some ⟨b,0,none⟩) len cap):=by have :=VR.slk (O:=O) (w:=w) (off:=0) (len:=len) (c:=cap) (a:=some ⟨b,0*es,none⟩) (Sg.put_same σ m (some b,es,cap)) (by omega) (λ_=>rfl) rfl;simpa using this
theorem aXB {t el:TypeId} {C es:Nat} {z:List V} {j:Array (Nat×Operand)} {ps:List (Nat×Nat×A)} (ht:P.underlying t=some (.slice el))(R:bG P el=some es)(hz:zeroOf P el=some z)
 (ae:uQ (λi=>some (i,0)) j.toList=some ps) (hc:C*es<=16777216/\z.length=es/\0<es/\z.all cN=true) (he:∀x a,bK x=some a->VR (Own U σ S) w σ (e a) (ρ x)) (hR:aV U σ S w n) (G:S.get m=none/\σ m=none)
 (hK:pO S m (.bslice es z C (ps.map λp=>(p.1,p.2.2))) e K):rL P U σ S w n m ρ (.buildSlice t C j) K:=by
 obtain⟨ai,N,Q,aa⟩:=hc;obtain⟨i,zv,hi,J,ag⟩:=iY hz;have M:∀x∈zE C z,x.length=es:=λx hx=>by rw [(List.mem_replicate.1 hx).2];exact N
 have Z:=aE2 (O:=Own U σ S) (w:=w) (el:=el) ag aa N Q C;obtain⟨ac,ad⟩:=aWM _ _ ae he;simp only [pO] at hK;split at hK
 ·rename_i E H;obtain⟨W,Y,D,F,af,ab⟩:=aRR _ (j.toList.map λp=>(p.1,ρ p.2)) _ E _ M (by simp) Z (by simp [ac]) ad H;simp only [zT] at Y;obtain⟨g,r⟩:=hR.new_row G (nR.alloc w D el) S (λ_ _ h=>h) (xs:=E) (cap:=C) W ⟨by omega,Nat.le_trans (Nat.le_mul_of_pos_right C Q) (by omega)⟩ (by rw [af,Y];exact yK _) (λi x c y hx hy=>ab _ _ (gP W i x c y hx hy))
  refine⟨_,_,_,hK,λo' ho=>⟨_,.slice (some ⟨w.heap.size,0,none⟩) C C,_,_,?_,.inl rfl,(by intro k hk;first |rfl |exact Sg.put_other _ _ hk),g,r,VR.row _ _ _ _ _ _ _ _ (yK _)⟩⟩
  have B:Instr.fill (λi=>some (i*es,es)) ((yL (C*es)).map (zv.cells[·%zv.cells.size]!)) (j.map λp=>(p.1,ρ p.2)).toList=some D:=by simpa using F
  have T:¬(2^24<C*es):=by omega
  by_cases h0:C*es=0
  ·simp only [execOp,ho,Instr.buildSlice,Sem.run_bind,run_underlying ht,Result.andThen_ok,bE R,T,if_false,h0,if_true,Sem.run_pure,gt_iff_lt,yH];have e0:∀f:Nat->Value,(yL 0).map f= #[]:=λf=>by simp
   have ah:Instr.fill (λi=>some (i*es,es)) ((yL 0).map ((#[]:Array Value)[·%(#[]:Array Value).size]!)) (j.map λp=>(p.1,ρ p.2)).toList=some D:=by rw [h0,e0] at B;rw [e0];exact B
   simp only [ah,newRow,Sem.run_bind,run_newObj,Result.andThen_ok,Sem.run_pure];rfl
  ·simp only [execOp,ho,Instr.buildSlice,Sem.run_bind,run_underlying ht,Result.andThen_ok,bE R,T,if_false,h0,Sem.run_pure,gt_iff_lt,zeroValue,typeInfo,run_program,hi,J];simp only [B,newRow,Sem.run_bind,run_newObj,Result.andThen_ok,Sem.run_pure];rfl
 ·cases hK
theorem nN(l:List UInt8):(jT l).length=l.length:=by unfold jT;rw [List.length_map]
theorem bRP {t el:TypeId} {i:TypeInfo} {z:List V} {x y:Operand} {a b:A} (ht:P.underlying t=some (.slice el))(hi:P.info? el=some i)(hz:zeroOf P el=some z)(hc:z.length=i.size/\0<i.size/\z.all cN=true)
 (Q:VR (Own U σ S) w σ (e a) (ρ x)) (R:VR (Own U σ S) w σ (e b) (ρ y)) (hR:aV U σ S w n) (D:S.get m=none/\σ m=none) (G:pO S m (.mk i.size i.bytes z a b) e K):rL P U σ S w n m ρ (.makeSlice t x y) K:=by
 obtain⟨B,C,T⟩:=hc;obtain⟨i',zv,H,F,Z⟩:=iY hz;rw [hi] at H;obtain rfl:=zsi H;simp only [pO] at G;split at G
 ·rename_i k1 l k2 c h1 h2;rw [h1] at Q;rw [h2] at R;generalize W:ρ x=va at Q;generalize Y:ρ y=vb at R;cases Q
  cases R
  obtain⟨g0,g1,g2,g3,G⟩:=G;have f:∀q∈zE l.toNat z,q.length=i.size:=λq J=>by rw [(List.mem_replicate.1 J).2];exact B
  have M:=aE2 (O:=Own U σ S) (w:=w) (el:=el) Z T B C c.toNat;have E:oU (Own U σ S) w (λ_=>none) (zE l.toNat z).flatten (madeCells zv.cells (c.toNat*i.size)):=by intro j q J;obtain⟨hj,-⟩:=List.getElem?_eq_some_iff.1 J;rw [fA f,zT] at hj;have aa:l.toNat*i.size<=c.toNat*i.size:=zM _ (by omega);rw [fH B C _ j hj] at J;refine M j q ?_;rw [fH B C _ j (by omega)];exact J
  obtain⟨g,r⟩:=hR.new_row D (nR.alloc w (madeCells zv.cells (c.toNat*i.size)) el) S (λ_ _ h=>h) (xs:=zE l.toNat z) (cap:=c.toNat) f (by simp;omega) (by rw [size_madeCells];exact yK _) (λi x c y Q R=>E _ _ (gP f i x c y Q R));refine⟨_,_,_,G,λo' ho=>⟨_,.slice (some ⟨w.heap.size,0,none⟩) l.toNat c.toNat,_,_,?_,.inl rfl,(by intro k hk;first |rfl |exact Sg.put_other _ _ hk),g,r,VR.rowk _ _ _ _ _ _ _ _ (by omega)⟩⟩
  have N:=run_make (P:=P) w t el i zv ht hi F k1 k2 l c g0 g1 g2 g3;simp only [execOp,ho,W,Y,Sem.run_bind,N,Result.andThen_ok,Sem.run_pure]
 ·cases G
theorem aMJ {x:V} {v:Value} {es es':Nat} {ys:List (List V)} {tx e':TypeId} (hk:P.underlying tx=some (.slice e'))(hR:aV U σ S w n)(hx:VR (Own U σ S) w σ x v) {len':Nat} (F:aPR S x=some (es',len',ys))(Q:es'=es\/ys=[])(f:ys.length=len'):
 (∀y∈ys,y.length=es)/\(∃H cap,v=.slice H ys.length cap)/\∀m,m<=ys.length->∃news:List Value,news.length=m*es/\(∀u∈news,u.oneCell'=true)/\oU (Own U σ S) w (λ_=>none) (ys.take m).flatten news.toArray/\
  ∀w',aA3 w w'->(Builtin.firstCells es m v).run P w'=.ok news.toArray w':=by
 have O:∀(b o:Nat) (len cap:Nat) (H:Option Addr),(∀y∈ys,y.length=es)->v=.slice H len cap->ys.length=len->(ys≠ []->H=some ⟨b,o,none⟩/\b<w.heap.size)->
  (∀(i:Nat) (z:List V) (c:Nat) (y:V),ys[i]? =some z->z[c]? =some y->∃u,w.cell? ⟨b,o+i*es+c,none⟩=some u/\u.oneCell'=true/\VR (Own U σ S) w (λ_=>none) y u)->
  ∀m,m<=ys.length->∃news:List Value,news.length=m*es/\(∀u∈news,u.oneCell'=true)/\oU (Own U σ S) w (λ_=>none) (ys.take m).flatten news.toArray/\∀w',aA3 w w'->(Builtin.firstCells es m v).run P w'=.ok news.toArray w':=by
  intro b o len cap H B hv ag G C m hm
  by_cases ah:ys=[]
  ·subst ah;obtain rfl:m=0:=by simpa using hm
   refine⟨[],by simp,by simp,λj y D=>by simp at D,λw' _=>?_⟩;subst hv
   cases H with
   |none=>simp [Builtin.firstCells]
   |some a=>simp [Builtin.firstCells,loadCells,loadCellsFrom]
  ·obtain⟨rfl,hb⟩:=G ah
   have W:∀j,j<m*es->∃(i:Nat) (z:List V) (c:Nat) (y:V),ys[i]? =some z/\z[c]? =some y/\j=i*es+c/\i<m:=by
    intro j J
    have E:0<es:=by
     rcases Nat.eq_zero_or_pos es with h |h
     ·subst h;simp at J
     ·exact h
    have Z:j/es<m:=(Nat.div_lt_iff_lt_mul E).2 J;have af:j/es<ys.length:=by omega
    have hc:j%es<es:=Nat.mod_lt _ E;have ai:(ys[j/es]).length=es:=B _ (yQ af);exact⟨j/es,ys[j/es],j%es,(ys[j/es])[j%es],zA af,zA (by omega),by rw [Nat.mul_comm,Nat.div_add_mod],Z⟩
   have Y:∀j,j<m*es->∃u,w.cell? ⟨b,o+j,none⟩=some u/\u.oneCell'=true:=by intro j J;obtain⟨i,z,c,y,h1,h2,rfl,-⟩:=W j J;obtain⟨u,q1,q2,-⟩:=C i z c y h1 h2;exact⟨u,by rw [<-yN];exact q1,q2⟩
   refine⟨(List.range (m*es)).map λj=>(w.cell? ⟨b,o+j,none⟩).getD undef,by simp,λu hu=>?_,λj y D=>?_,λw' F=>?_⟩
   ·obtain⟨j,J,rfl⟩:=List.mem_map.1 hu;obtain⟨u,q1,q2⟩:=Y j (List.mem_range.1 J);simpa [q1] using q2
   ·have M:∀y∈ys.take m,y.length=es:=λy D=>B y (yM D);obtain⟨J,-⟩:=List.getElem?_eq_some_iff.1 D;rw [fA M,yE,Nat.min_eq_left hm] at J;obtain⟨i,z,c,y',h1,h2,rfl,aq⟩:=W j J;have :=gP M i z c y' (by rw [zK,if_pos aq];exact h1) h2;rw [this] at D;obtain rfl:=zsi D;obtain⟨u,q1,q2,q3⟩:=C i z c y' h1 h2;refine⟨u,?_,q2,q3⟩;rw [yN] at q1;simp [J,q1]
   ·subst hv;simp only [Builtin.firstCells];exact run_loadCells b o _ (m*es) λj J=>by obtain⟨u,q1,-⟩:=Y j J;rw [F.cell hb,q1];rfl
 unfold aPR aUK at F;replace hx:=oQ hx;generalize unk x=x0 at F hx;split at F
 ·rename_i ak t2 xs;simp only [zse,Prod.mk.injEq] at F;obtain⟨rfl,rfl,rfl⟩:=F
  cases hx with
  | @lst _ _ _ _ H cap b o cv G hl ae aw am ap ao=>
    have B:∀y∈xs,y.length=es:=λy D=>by
     rcases Q with rfl |h
     ·exact hl y D
     ·subst h;simp at D
    refine⟨B,⟨H,cap,rfl⟩,O b o _ _ H B rfl rfl (λaa=>⟨(G aa).1,(G aa).2.2⟩) λi z c y T D=>?_⟩;obtain⟨Z,-⟩:=List.getElem?_eq_some_iff.1 T;obtain⟨hc,-⟩:=List.getElem?_eq_some_iff.1 D;have ai:=hl z (zI T);have aj:=B z (zI T);have :=am i c Z (by omega);rw [ai.symm.trans aj] at this;exact⟨_,this,ap i c Z (by omega),ao i z c y T D⟩
 ·rename_i k N len;split at F
  ·rename_i ak xs ho;simp only [zse,Prod.mk.injEq] at F;obtain⟨rfl,rfl,rfl⟩:=F;have R:=hR.obj k _ ho
   cases hx with
   | @sl _ _ _ _ b al cap H ab au G=>
     rw [ab] at R;obtain⟨hl,rfl,ae,ar,ty,hh,av,C⟩:=R;have ag:N+len<=xs.length\/len=0:=by simp at f;omega
     have B:∀y∈(xs.drop N).take len,y.length=es:=λy D=>by
      rcases Q with rfl |h
      ·exact hl y (List.mem_of_mem_drop (yM D))
      ·rw [h] at D;simp at D
     have ac:b<w.heap.size:=(Array.getElem?_eq_some_iff.1 hh).1;refine⟨B,⟨H,cap-N,by rw [f]⟩,O b (N*es) _ _ H B rfl f (λaa=>?_) λi z c y T D=>?_⟩
     ·have E:0< ((xs.drop N).take len).length:=List.length_pos_iff.2 aa;rw [f] at E;rcases Q with rfl |h
      ·exact⟨G (by omega),ac⟩
      ·exact absurd h aa
     ·obtain⟨Z,-⟩:=List.getElem?_eq_some_iff.1 T;rw [f] at Z;rw [zK,if_pos Z,zP] at T;have ax:=T;obtain⟨u,q1,q2,q3⟩:=C _ z c y T D
      have e1:al=es:=by
       rcases Q with rfl |h
       ·rfl
       ·rw [h] at f;simp at f;omega
      subst e1;refine⟨u,?_,q2,q3⟩;rw [zF] at q1;simp [World.cell?,hh,q1]
   |sl0 ab=> rw [ab] at R;obtain⟨hl,rfl,-,rfl⟩:=R;simp only [List.drop_nil,List.take_nil] at *;exact⟨by simp,⟨_,0,rfl⟩,O 0 0 _ _ _ (by simp) rfl rfl (by simp) (by simp)⟩
  ·cases F
 ·simp only [zse,Prod.mk.injEq] at F;obtain⟨rfl,rfl,rfl⟩:=F;cases hx
  exact⟨by simp,⟨_,_,rfl⟩,O 0 0 _ _ _ (by simp) rfl rfl (by simp) (by simp)⟩
 ·cases F
end
end Go.Sk
